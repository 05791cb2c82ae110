/- Part 5. -/
import Derived.Test.YtokmalmdcihogabGreatPart04
import Derived.Test.YtokmalmdcihogabGreatPart02
import Derived.MapKept
import Derived.DeepKeys3
import Derived.Laws.StructEq
import Derived.Lib.UnsafeStr
set_option linter.unusedVariables false
set_option linter.unusedSimpArgs false
section
namespace Go.Px
section
variable {E:Env} {N:Nat} {P:Program} {n0 n0':Nz} {nt:Nat} {β β':Nat→Option Nat} {σ σ':Nat→Option (Nat×Nat)} {s s':St0 E N} {a:Act} {w w':World}
def Row:Nat→List (Nat×HEnt (std E N))→Prop
 | _,[]=>True
 | q,(k,h)::r=>k=q∧Row (q+1) r
theorem Row.append:∀ {q:Nat} {r r':List (Nat×HEnt (std E N))},Row q r→Row (q+r.length) r'→Row q (r++r')
 | _,[],_,_,h=>by simpa using h
 | q,(k,h')::r,_,h,h2=>⟨h.1,Row.append h.2 (by simpa [Nat.add_assoc,Nat.add_comm 1] using h2)⟩
theorem Row.mem:∀ {q:Nat} {r:List (Nat×HEnt (std E N))},Row q r→∀ p∈r,q≤p.1∧p.1<q+r.length
 | q,(k,h')::r,h,p,hp=>by
  rcases List.mem_cons.1 hp with rfl | hp
  ·have:=h.1;subst this;simp
  ·have:=Row.mem h.2 p hp;simp;omega
theorem Row.get:∀ {q:Nat} {r:List (Nat×HEnt (std E N))},Row q r→∀ {n:Nat} {h:HEnt (std E N)},AJ r n=some h→(n,h)∈r
 | q,(k,h')::r,hr,n,h,hg=>by
  simp only [AJ] at hg
  split at hg
  ·rename_i e;have:=AA.1 e;subst this;cases hg;exact zzm
  ·exact zzn _ (Row.get hr.2 hg)
theorem Row.has:∀ {q:Nat} {r:List (Nat×HEnt (std E N))},Row q r→∀ {n:Nat} {h:HEnt (std E N)},(n,h)∈r→AJ r n=some h
 | q,(k,h')::r,hr,n,h,hg=>by
  simp only [AJ]
  rcases List.mem_cons.1 hg with e | hg
  ·cases e;rw [AA.2 rfl]
  ·have h1:=Row.mem hr.2 _ hg;have h2:=hr.1;have:Nat.beq k n=false:=by
    cases hb:Nat.beq k n with
    | false=>rfl
    | true=>have:=AA.1 hb;simp at h1;omega
   rw [this];exact Row.has hr.2 hg
theorem Row.at:∀ {q:Nat} {r:List (Nat×HEnt (std E N))},Row q r→∀ {n:Nat},q≤n→n<q+r.length→∃ h,(n,h)∈r
 | q,[],_,n,h1,h2=>by simp at h2;omega
 | q,(k,h')::r,hr,n,h1,h2=>by
  by_cases h:n=q
  ·exact ⟨h',by rw [h,← hr.1];exact zzm⟩
  ·obtain ⟨h3,h4⟩:=Row.at hr.2 (n:=n) (by omega) (by simp at h2;omega);exact ⟨h3,zzn _ h4⟩
theorem Ents.row:∀ {q:Nat} {os:List (Option Nat)} {r:List (Nat×HEnt (std E N))},Ents P s q os r→Row q r
 | _,[],[],_=>trivial
 | _,_::_,(_,_)::_,h=>⟨h.1,Ents.row h.2.2.2⟩
 | _,[],_::_,h=>h.elim
 | _,_::_,[],h=>h.elim
theorem Ents.find:∀ {q:Nat} {os:List (Option Nat)} {r:List (Nat×HEnt (std E N))},Ents P s q os r→∀ {n:Nat} {h:HEnt (std E N)},(n,h)∈r→∃ i o,n=q+i∧os[i]?=some o∧mE P s h o∧h.frozen=false
 | q,o::os,(k,h')::r,he,n,h,hm=>by
  rcases List.mem_cons.1 hm with e | hm
  ·cases e;exact ⟨0,o,he.1,rfl,he.2.2.1,he.2.1⟩
  ·obtain ⟨i,o',h1,h2,h3⟩:=Ents.find he.2.2.2 hm;exact ⟨i+1,o',by omega,h2,h3⟩
 | _,[],_::_,h,_,_,_=>h.elim
theorem U7 {σc : Nat → Option (Nat × Nat)} {s0 : St0 E N} : ∀ {q : Nat} {os : List (Option Nat)} {r : List (Nat × HEnt (std E N))},
    (∀ i o p,os[i]?=some o→r[i]?=some p→σc (q+i)=o.bind σ∧s0.getH (q+i)=some p.2)→Wired σ σc s0 q os r
  | q, o :: os, (k, h') :: r, h => ⟨(h 0 o _ rfl rfl).1, (h 0 o _ rfl rfl).2, U7 (fun i o' p h1 h2 => by
      have:=h (i+1) o' p (by simpa using h1) (by simpa using h2);rw [show q+1+i=q+(i+1) by omega];exact this)⟩
  | _,[],_,_=>by unfold Wired;trivial
  | _,_::_,[],_=>by unfold Wired;trivial
theorem Row.idx:∀ {q:Nat} {r:List (Nat×HEnt (std E N))},Row q r→∀ {i:Nat} {p:Nat×HEnt (std E N)},r[i]?=some p→p.1=q+i
 | q,(k,h')::r,hr,0,p,h=>by simp at h;subst h;exact hr.1
 | q,(k,h')::r,hr,i+1,p,h=>by have:=Row.idx hr.2 (i:=i) (by simpa using h);omega
theorem SP:∀ {os:List (Option Nat)} {i j x:Nat},(os.filterMap id).Nodup→os[i]?=some (some x)→os[j]?=some (some x)→i=j
 | o::os,i,j,x,hn,hi,hj=>by
  have mem:∀ {k:Nat},os[k]?=some (some x)→x∈os.filterMap id:=fun {k} h=>by
   simp only [List.mem_filterMap];exact ⟨some x,List.mem_of_getElem? h,rfl⟩
  cases o with
  | none =>
   have hn':(os.filterMap id).Nodup:=by simpa using hn
   cases i with
   | zero=>simp at hi
   | succ i=>cases j with
    | zero=>simp at hj
    | succ j=>rw [SP hn' (i:=i) (j:=j) (by simpa using hi) (by simpa using hj)]
  | some y =>
   have hn':(y::os.filterMap id).Nodup:=by simpa using hn
   obtain ⟨h1,h2⟩:=List.nodup_cons.1 hn';cases i with
   | zero=>cases j with
    | zero=>rfl
    | succ j=>simp at hi hj;subst hi;exact (h1 (mem hj)).elim
   | succ i=>cases j with
    | zero=>simp at hi hj;subst hj;exact (h1 (mem hi)).elim
    | succ j=>rw [SP h2 (i:=i) (j:=j) (by simpa using hi) (by simpa using hj)]
def OkC (q len:Nat) (nw:Bool):AC0 E N→Prop
 | .int _ _ | .bool _ | .str _=>True
 | .imm _ n _=>n=nw
 | .own _ k=>q≤k∧k<q+len
 | _=>False
theorem OkC.wide {q len q' len':Nat} {nw:Bool} {c:AC0 E N} (h:OkC q len nw c) (h1:q'≤q) (h2:q+len≤q'+len'):OkC q' len' nw c:=by
 cases c<;>first | exact h | (obtain ⟨a,b⟩:=h;exact ⟨by omega,by omega⟩)
def OkH (nw:Bool) (hs:List (Nat×HEnt (std E N))):Prop:=∀ p∈hs,p.2.nw=nw∧p.2.frozen=false∧p.2.dirty=true
theorem PI {own : Nat → Bool} {nw : Bool} {c : List PV} : ∀ {ts : List TypeId} {j q : Nat} {cs : List (AC0 E N)} {hs : List (Nat × HEnt (std E N))}, Aq (O := std E N) P own nw c j q ts = some (cs, hs) →
    Row q hs∧OkH nw hs∧∀ x∈cs,OkC q hs.length nw x
  | [],j,q,cs,hs,h=>by
    simp only [Aq] at h;cases h;exact ⟨trivial,fun p hp=>by simp at hp,fun x hx=>by simp at hx⟩
  | t::ts,j,q,cs,hs,h=>by
    have plain:∀ (x:AC0 E N),(∀ len,OkC q len nw x)→(Aq (O:=std E N) P own nw c (j+1) q ts).map (fun p=>(x::p.1,p.2))=some (cs,hs)→Row q hs∧OkH nw hs∧∀ x∈cs,OkC q hs.length nw x:=fun x hx h=>by
      obtain ⟨⟨r,hh⟩,h1,h2⟩:=zzp.1 h;cases h2;obtain ⟨a1,a2,a3⟩:=PI h1;exact ⟨a1,a2,fun y hy=>(List.mem_cons.1 hy).elim (fun e=>e▸hx _) (a3 y)⟩
    simp only [Aq] at h
    split at h
    · exact plain (.int _ _) (fun _=>trivial) h
    · exact plain (.bool _) (fun _=>trivial) h
    · exact plain (.str _) (fun _=>trivial) h
    · split at h
      · obtain ⟨⟨r,hh⟩,h1,h2⟩:=zzp.1 h;cases h2;obtain ⟨a1,a2,a3⟩:=PI h1;refine ⟨⟨rfl,a1⟩,fun p hp=>?_,fun y hy=>?_⟩
        · rcases List.mem_cons.1 hp with rfl | hp
          · exact ⟨rfl,rfl,rfl⟩
          · exact a2 p hp
        · rcases List.mem_cons.1 hy with rfl | hy
          · exact ⟨Nat.le_refl _,by simp⟩
          · exact (a3 y hy).wide (by omega) (by simp;omega)
      · exact plain (.imm _ nw _) (fun _=>rfl) h
    · cases h
theorem RO {own : Nat → Bool} {nw : Bool} {c : List PV} : ∀ {ts : List TypeId} {j q : Nat} {vs : List (Val (std E N))} {hs : List (Nat × HEnt (std E N))}, BQ (O := std E N) P own nw c j q ts = some (vs, hs) →
    Row q hs∧OkH nw hs∧∀ v∈vs,∀ x∈v.cs,OkC q hs.length nw x
  | [],j,q,vs,hs,h=>by
    simp only [BQ] at h;cases h;exact ⟨trivial,fun p hp=>by simp at hp,fun x hx=>by simp at hx⟩
  | t::ts,j,q,vs,hs,h=>by
    simp only [BQ] at h
    split at h
    · cases h
    · split at h
      · cases h
      · rename_i cs h1 hc
        split at h
        · cases h
        · rename_i vs2 h2 hv;cases h;obtain ⟨a1,a2,a3⟩:=PI hc;obtain ⟨b1,b2,b3⟩:=RO hv;refine ⟨a1.append b1,fun p hp=>(List.mem_append.1 hp).elim (a2 p) (b2 p),fun v hv x hx=>?_⟩
          rcases List.mem_cons.1 hv with rfl | hv
          · exact (a3 x hx).wide (Nat.le_refl _) (by simp)
          · exact (b3 v hv x hx).wide (by omega) (by simp;omega)
theorem Yi {u:List Nat}:∀ {fr:List (Nat×Option (HEnt (std E N)))},bI u fr=true→∀ x∈fr,x.1∉u
 | [],_,x,hx=>by simp at hx
 | (n,v)::r,h,x,hx=>by
  simp only [bI,zzk,Bool.not_eq_true'] at h
  rcases List.mem_cons.1 hx with rfl | hx
  ·intro hm;have:=CV.2 hm;rw [this] at h;cases h.1
  ·exact Yi h.2 x hx
end
section
variable {E:Env} {N:Nat} {P:Program} {n0 n0':Nz} {nt:Nat} {β β':Nat→Option Nat} {σ σ':Nat→Option (Nat×Nat)} {s s':St0 E N} {a:Act} {w w':World}
theorem RelC.moved {n0c : Nz} {σ1 : Nat → Option (Nat × Nat)} {s1 s2 : St0 E N} {q len : Nat} {nw : Bool} {c : AC0 E N} {v : Value} (hc : OkC q len nw c) (h : RelC P n0c noB σ1 s1 w c v)
    (hσ:∀ n,q≤n→n<q+len→σ' n=σ1 n∧s2.getH n=s1.getH n) (hst:∀ b,StB n0c noB σ1 s1 nw b→StB n0 β σ' s2 nw b):RelC P n0 β σ' s2 w c v:=by
  cases c with
  | int k i=>exact h
  | bool b=>exact h
  | str x=>exact h
  | imm e n l =>
    have:n=nw:=hc;subst this;obtain ⟨t,ht,hr⟩:=h;exact ⟨t,ht,hr.st hst⟩
  | own e id =>
    obtain ⟨h1,h2⟩:=h;obtain ⟨e1,e2⟩:=hσ id hc.1 hc.2;refine ⟨h1,fun h3 hh3=>?_⟩;rw [e2] at hh3;obtain ⟨a1,a2⟩:=h2 h3 hh3;refine ⟨a1,?_⟩;unfold iz at a2 ⊢;rw [e1];exact a2
  | _=>exact hc.elim
theorem RelCs.moved {n0c : Nz} {σ1 : Nat → Option (Nat × Nat)} {s1 s2 : St0 E N} {q len : Nat} {nw : Bool} (hσ : ∀ n, q ≤ n → n < q + len → σ' n = σ1 n ∧ s2.getH n = s1.getH n) (hst : ∀ b, StB n0c noB σ1 s1 nw b → StB n0 β σ' s2 nw b) :
    ∀ {cs:List (AC0 E N)} {vs:List Value},(∀ x∈cs,OkC q len nw x)→RelCs P n0c noB σ1 s1 w cs vs→RelCs P n0 β σ' s2 w cs vs
  | [],[],_,h=>h
  | c::cs,v::vs,hc,h=>⟨RelC.moved (hc c zzm) h.1 hσ hst,RelCs.moved hσ hst (fun x hx=>hc x (zzn _ hx)) h.2⟩
  | [],_::_,_,h=>h.elim
  | _::_,[],_,h=>h.elim
theorem RelVals.moved {n0c : Nz} {σ1 : Nat → Option (Nat × Nat)} {s1 s2 : St0 E N} {q len : Nat} {nw : Bool} (hσ : ∀ n, q ≤ n → n < q + len → σ' n = σ1 n ∧ s2.getH n = s1.getH n) (hst : ∀ b, StB n0c noB σ1 s1 nw b → StB n0 β σ' s2 nw b) :
    ∀ {cs:List (Val (std E N))} {vs:List Value},(∀ v∈cs,∀ x∈v.cs,OkC q len nw x)→RelVals P n0c noB σ1 s1 w cs vs→RelVals P n0 β σ' s2 w cs vs
  | [],[],_,h=>h
  | c::cs,v::vs,hc,h=>⟨⟨RelCs.moved hσ hst (hc c zzm) h.1.1,h.1.2⟩,RelVals.moved hσ hst (fun x hx=>hc x (zzn _ hx)) h.2⟩
  | [],_::_,_,h=>h.elim
  | _::_,[],_,h=>h.elim
theorem RelAV.moved {n0c : Nz} {σ1 : Nat → Option (Nat × Nat)} {s1 s2 : St0 E N} {q len : Nat} {nw : Bool} (hσ : ∀ n, q ≤ n → n < q + len → σ' n = σ1 n ∧ s2.getH n = s1.getH n) (hst : ∀ b, StB n0c noB σ1 s1 nw b → StB n0 β σ' s2 nw b)
    {vs:List (Val (std E N))} {v:Value} (hc:∀ v∈vs,∀ x∈v.cs,OkC q len nw x) (h:RelAV P n0c noB σ1 s1 w (Ib vs) v):RelAV P n0 β σ' s2 w (Ib vs) v:=by
  match vs,hc,h with
  | [x],hc,h=>exact ⟨RelCs.moved hσ hst (hc x zzm) h.1,h.2⟩
  | [],hc,h=>obtain ⟨us,hv,hr⟩:=h;exact ⟨us,hv,RelVals.moved hσ hst hc hr⟩
  | x::y::r,hc,h=>obtain ⟨us,hv,hr⟩:=h;exact ⟨us,hv,RelVals.moved hσ hst hc hr⟩
def qr (a:Act) (P:Program) (n0:Nz) (β:Nat→Option Nat) (σ:Nat→Option (Nat×Nat)) (s:St0 E N) (w:World) (new:Nat→Prop) (wr:Wr (std E N)) (vs:List (Val (std E N))):Ending→World→Prop
 | .returned v,w'=>∃ σ',Mem P n0 β σ' (s.apply wr) w'∧Ext P new β σ s w β σ' (s.apply wr) w'∧Tidy a new s (s.apply wr)∧RelAV P n0 β σ' (s.apply wr) w' (Ib vs) v
 | _,_=>False
theorem ia {b:Blk} (h:b.c=true) {Q:Blk→Prop} (q:Q ⟨b.b,true⟩):Q b:=by
 obtain ⟨b,c⟩:=b;cases h;exact q
theorem sV (hn0 : n0.n ≤ w.heap.size) (m : Mem P n0 β σ s w) (hkp : Kept P β σ s w) {ci : CI} (hv : IE P E N ci) {fn : Func} (hfn : P.funcs[ci.f]? = some fn) {args : List (AV (std E N))} {vals : List Value} {ls : List AU} {fr : List (Nat × Option (HEnt (std E N)))} {u : List Nat} {k k' : Nat}
    (hr:RelArgs P n0 β σ s w args vals) (ha:GR P fn.params.toList args=true) (hf:Hn args=some ci.fns) (hnc:(ci.nw||Qp args)=true) (hl:RM.run s (Ki (O:=std E N) P ci.gives [] args) k=.ok ((ls,fr,u),k')) (hgiv:Xu ci.gives u fr=true)
    {rs:List PV} (he:E ci.f ci.fns (ls.map Leaf.pv)=some rs) {id:Nat} {vs:List (Val (std E N))} {nh:List (Nat×HEnt (std E N))} (hb:BQ (O:=std E N) P ci.ow ci.nw rs 0 id fn.resultTypes.toList=some (vs,nh))
    (hid:∀ n,id≤n→n<id+nh.length→Fresh a s n) {wr:Wr (std E N)} (ht0:wr.ts=[]) (hwb:wr.bs=[])
    (hwr:wr.hs=(match ci.nw with | true=>[] | false=>fr)++(u.map (fun n=>(n,none))++nh.map fun (n,h)=>(n,some h))) :
    Calls P ci.f vals.toArray w (qr a P n0 β σ s w (fun n=>id≤n∧n<id+nh.length) wr vs):=by
  obtain ⟨frOK,vs0,nhc,ids,a1,a2,a3,a4,a5,a6,a7,a8⟩:=SW m hr ha hf hl 1;have hgv:=hgiv;unfold Xu at hgv;rw [zzk] at hgv;have hfru:=Yi hgv.1
  let sk:=s.apply ({ hs:=fr }:Wr (std E N))
  have subk:Sub s sk:=frOK.sub rfl rfl
  let U:Blk→Prop:=fun b=>(¬ InM β σ sk b.b∧Old n0 false b)∨(b.c=true∧∃ i cap h,i∈u∧s.getH i=some h∧h.frozen=false∧σ i=some (b.b,cap))∨(b.c=true∧ci.nw=true∧∃ n e,s.getB n=some e∧β n=some b.b)
  let n0c:Nz:=⟨w.heap.size,U⟩
  let σc:Nat→Option (Nat×Nat):=fun n=>match ids[n - 1]? with
    | some (some i)=>σ i
    | _=>none
  have rowc:=a2.row;have gH0:∀ n,(AP nhc).getH n=AJ nhc n:=fun n=>rfl
  have gB0:∀ n,(AP nhc).getB n=none:=fun n=>rfl
  have find:∀ n h,(AP nhc).getH n=some h→∃ i o,n=1+i∧ids[i]?=some o∧mE P s h o∧h.frozen=false∧σc n=o.bind σ:=fun n h hh=>by
    obtain ⟨i,o,h1,h2,h3,h4⟩:=a2.find (rowc.get hh);refine ⟨i,o,h1,h2,h3,h4,?_⟩;have:n - 1=i:=by omega
    simp only [σc,this,h2];cases o<;>rfl
  have inM0:∀ b,InM noB σc (AP nhc) b→∃ i cap h,i∈u∧s.getH i=some h∧h.frozen=false∧σ i=some (b,cap):=fun b hb=>by
    rcases hb with ⟨n,e,h1,h2⟩ | ⟨n,h,cap,h1,h2,h3⟩
    · rw [gB0] at h1;cases h1
    · obtain ⟨i,o,e1,e2,e3,e4,e5⟩:=find n h h1;rw [e5] at h3;cases o with
      | none=>cases h3
      | some x =>
        obtain ⟨h0,q1,q2,q3,q4,q5⟩:=e3;exact ⟨x,cap,h0,(a5 x (List.mem_of_getElem? e2)).1,q1,q4,h3⟩
  have inMs:∀ b,InM noB σc (AP nhc) b→InM β σ s b:=fun b hb=>by
    obtain ⟨i,cap,h,_,h1,h2,h3⟩:=inM0 b hb;exact .inr ⟨i,h,cap,h1,h2,h3⟩
  have inMk:∀ b,InM noB σc (AP nhc) b→InM β σ sk b:=fun b hb=>by
    obtain ⟨i,cap,h,h0,h1,h2,h3⟩:=inM0 b hb;refine .inr ⟨i,h,cap,?_,h2,h3⟩;show AJ (Ay s.hp fr) i=some h;rw [DU (fun hm=>by
      obtain ⟨x,hx,e⟩:=List.mem_map.1 hm;exact hfru x hx (e▸h0))]
    exact h1
  have stc:∀ nw b,StB n0 β σ s nw b→StB n0c noB σc (AP nhc) false b:=fun nw b hb =>
    ⟨fun hm=>hb.1 (inMs _ hm),⟨fun e=>(by cases e),.inr (.inl ⟨fun hm=>hb.1 (subk.inM hm),hb.2.mono (fun e=>(by cases e))⟩)⟩⟩
  have m0:Mem P n0c noB σc (AP nhc) w:=by
    refine ⟨fun b e h=>(by rw [gB0] at h;cases h),fun n h hh=>?_,fun b b' e e' blk h=>(by rw [gB0] at h;cases h),fun n n' h h' blk cap cap' hh hh' h1 h2=>?_,fun b e i h blk cap hb=>(by rw [gB0] at hb;cases hb)⟩
    · obtain ⟨i,o,e1,e2,e3,e4,e5⟩:=find n h hh;have hnw:=a7 (n,h) (rowc.get hh);cases o with
      | none =>
        obtain ⟨q1,t,ts,q2,q3⟩:=e3;exact .inl ⟨t,ts,q2,q3,by rw [q1];simp,.inl ⟨by rw [e5];rfl,q1⟩⟩
      | some x =>
        obtain ⟨h0,q1,q2,q3,q4,q5⟩:=e3;have hnw':h.nw=false:=hnw;refine (m.H x h0 q1).view q2 q3 (by rw [e5];rfl) (fun blk cap hs ho=>?_) (fun b hb=>by rw [hnw'];exact stc _ b hb);rw [hnw'];exact ⟨fun e=>by (cases e),.inr (.inr (.inl ⟨rfl,x,cap,h0,(a5 x (List.mem_of_getElem? e2)).1,q1,q4,hs⟩))⟩
    · obtain ⟨i,o,e1,e2,e3,e4,e5⟩:=find n h hh;obtain ⟨i',o',e1',e2',e3',e4',e5'⟩:=find n' h' hh';rw [e5] at h1;rw [e5'] at h2;cases o with
      | none=>cases h1
      | some x=>cases o' with
        | none=>cases h2
        | some x' =>
          obtain ⟨h0,q1,_⟩:=e3;obtain ⟨h0',q1',_⟩:=e3';have:=m.uH x x' h0 h0' blk cap cap' q1 q1' h1 h2;subst this;rw [e1,e1',SP a6 e2 e2']
  have wired:Wired σ σc (AP nhc) 1 ids nhc:=U7 (fun i o p h1 h2=>by
    have h3:=rowc.idx h2;refine ⟨?_,?_⟩
    · have:1+i - 1=i:=by omega
      simp only [σc,this,h1];cases o<;>rfl
    · rw [gH0,← h3];exact rowc.has (List.mem_of_getElem? h2))
  have rargs:=a8 sk n0c σc (AP nhc) subk (frOK.frz rfl) (fun b hb =>
    ⟨fun hm=>hb.1 (inMk _ hm),⟨fun e=>(by cases e),.inr (.inl ⟨hb.1,hb.2⟩)⟩⟩) (fun hn b e blk hb hbl=>⟨fun hm=>by
      obtain ⟨i,cap,h,h0,h1,h2,h3⟩:=inM0 blk hm;exact m.uX b e i h blk cap hb h1 hbl h3,⟨fun e=>(by cases e),.inr (.inr (.inr ⟨rfl,by rw [hn,Bool.or_false] at hnc;exact hnc,b,e,hb,hbl⟩))⟩⟩) wired
  have hlsl:(ls.map Leaf.pv).map PV.leaf=ls:=by
    rw [List.map_map]
    conv=>rhs;rw [← List.map_id ls]
    exact List.map_congr_left (fun x _=>Leaf.leaf_pv x)
  have hnil:ck ci.gives=true→∀ q,σc q=none:=fun hn q=>by
    have hu:u=[]:=by
      have:=hgv.2;rw [hn] at this;cases u with
      | nil=>rfl
      | cons a b=>cases this
    show (match ids[q - 1]? with | some (some i)=>σ i | _=>none)=none
    split
    · rename_i i hi;have:=(a5 i (List.mem_of_getElem? hi)).1;rw [hu] at this;cases this
    · rfl
  have hcall:=hv fn hfn (ls.map Leaf.pv) rs he vs0 nhc (by rw [hlsl];exact a1) n0c σc w vals rfl m0 rargs hnil (fun g hg=>⟨(hkp g hg).1,fun hm=>(hkp g hg).2 (inMs g hm)⟩);refine Calls.mono hcall (fun e w' hret=>?_);cases e with
  | panicked c=>exact hret
  | outgrown=>exact hret
  | returned v =>
    obtain ⟨r1,r2,r3,r4,r5,r6⟩:=hret;obtain ⟨σ1,vs',nh',r7,r8,r9,r10⟩:=r6 id;rw [hb] at r7;cases r7;obtain ⟨row1,okh,okc⟩:=RO hb
    let frx:=match ci.nw with | true=>[] | false=>fr
    let base:=s.apply ({ hs:=frx }:Wr (std E N))
    let s2:=s.apply wr
    let σ2:Nat→Option (Nat×Nat):=fun n=>if id≤n∧n<id+nh.length then σ1 n else σ n
    have frxOK:FrOK s frx:=by
      show FrOK s (match ci.nw with | true=>[] | false=>fr);cases ci.nw
      · exact frOK
      · exact fun n v hm=>by simp at hm
    have gB:=fun n=>State.getB_apply0 s wr hwb n
    have gT:=fun n=>State.getT_apply0 s wr ht0 n
    have hs2:s2.hp=Ay (Ay (Ay s.hp frx) (u.map fun n=>(n,none))) (nh.map fun (n,h)=>(n,some h)):=by
      show Ay s.hp wr.hs=_;rw [hwr,DB,DB]
    have g1:∀ n,id≤n→n<id+nh.length→s2.getH n=AJ nh n:=fun n h1 h2=>by
      obtain ⟨h,hh⟩:=row1.at h1 h2;rw [row1.has hh];show AJ s2.hp n=_;rw [hs2];refine TL (fun x hx e=>?_) ⟨(n,some h),List.mem_map.2 ⟨(n,h),hh,rfl⟩,rfl⟩;obtain ⟨y,hy,rfl⟩:=List.mem_map.1 hx;have h3:=row1.has (n:=y.1) (h:=y.2) hy;simp only at e;rw [e,row1.has hh] at h3;cases h3;rfl
    have g2:∀ n,¬ (id≤n∧n<id+nh.length)→s2.getH n=if n∈u then none else base.getH n:=fun n hn=>by
      show AJ s2.hp n=_;rw [hs2,DU (fun hm=>hn (by
        obtain ⟨x,hx,rfl⟩:=List.mem_map.1 hm;obtain ⟨y,hy,rfl⟩:=List.mem_map.1 hx;exact row1.mem y hy))]
      split
      · rename_i hu;exact TL (fun x hx e=>by obtain ⟨y,hy,rfl⟩:=List.mem_map.1 hx;rfl) ⟨(n,none),List.mem_map.2 ⟨n,hu,rfl⟩,rfl⟩
      · rename_i hu;rw [DU (fun hm=>hu (by
          obtain ⟨x,hx,rfl⟩:=List.mem_map.1 hm;obtain ⟨y,hy,rfl⟩:=List.mem_map.1 hx;exact hy))]
        rfl
    have old:∀ n h',¬ (id≤n∧n<id+nh.length)→s2.getH n=some h'→n∉u∧base.getH n=some h'∧∃ h0,s.getH n=some h0∧(h'=h0∨h'={ h0 with frozen:=true,dirty:=true }):=fun n h' hn hh=>by
      rw [g2 n hn] at hh
      split at hh
      · cases hh
      · rename_i hu;exact ⟨hu,hh,frxOK.get rfl n h' hh⟩
    have nogiveH:∀ n h0 b cap,n∉u→s.getH n=some h0→σ n=some (b,cap)→¬ InM noB σc (AP nhc) b:=fun n h0 b cap hu hh hs hm=>by
      obtain ⟨i,cap',h,q1,q2,q3,q4⟩:=inM0 b hm;exact hu (m.uH n i h0 h b cap cap' hh q2 hs q4▸q1)
    have nogiveB:∀ n e b,s.getB n=some e→β n=some b→¬ InM noB σc (AP nhc) b:=fun n e b hh hs hm=>by
      obtain ⟨i,cap',h,q1,q2,q3,q4⟩:=inM0 b hm;exact m.uX n e i h b cap' hh q2 hs q4
    have in1:∀ n h b cap,id≤n∧n<id+nh.length→s2.getH n=some h→σ1 n=some (b,cap)→InM noB σ1 (AP nh) b:=fun n h b cap hn hh hs=>by
      rw [g1 n hn.1 hn.2] at hh;exact .inr ⟨n,h,cap,hh,(okh _ (row1.get hh)).2.1,hs⟩
    have s2old:∀ n,¬ (id≤n∧n<id+nh.length)→σ2 n=σ n:=fun n hn=>by simp only [σ2,if_neg hn]
    have s2new:∀ n,id≤n∧n<id+nh.length→σ2 n=σ1 n:=fun n hn=>by simp only [σ2,if_pos hn]
    have x:Ext P (fun n=>id≤n∧n<id+nh.length) β σ s w β σ2 s2 w':=by
      refine ⟨r1,r2,r3,r4,fun b hlt hm=>r5 b hlt (fun h=>hm (inMs b h)),fun b hb=>?_,fun n e hh hn=>?_,fun n h' hh hn=>?_⟩
      · rcases hb with ⟨n,e,h1,h2⟩ | ⟨n,h,cap,h1,h2,h3⟩
        · rw [gB] at h1;exact .inl (.inl ⟨n,e,h1,h2⟩)
        · by_cases hn:id≤n∧n<id+nh.length
          · rw [s2new n hn] at h3;exact (r10 b (in1 n h b cap hn h1 h3)).imp (inMs b) (fun h=>h)
          · rw [s2old n hn] at h3;obtain ⟨_,_,h0,q1,q2⟩:=old n h hn h1
            rcases q2 with rfl | rfl
            · exact .inl (.inr ⟨n,h,cap,q1,h2,h3⟩)
            · cases h2
      · rw [gB] at hh;exact ⟨⟨e,hh⟩,rfl⟩
      · obtain ⟨_,_,h0,q1,q2⟩:=old n h' hn hh;refine ⟨h0,q1,s2old n hn,?_⟩
        rcases q2 with rfl | rfl<;>exact ⟨rfl,fun _=>rfl⟩
    have stR:∀ b,StB n0c noB σ1 (AP nh) ci.nw b→StB n0 β σ2 s2 ci.nw b:=fun b hb=>by
      have hge:(¬ w.heap.size≤b.b)→ci.nw=false:=fun h=>by
        cases hnw:ci.nw with
        | false=>rfl
        | true=>exact (h (hb.2.1 hnw)).elim
      refine ⟨fun hm=>?_,⟨fun e=>Nat.le_trans hn0 (hb.2.1 e),?_⟩⟩
      · rcases hm with ⟨n,e,h1,h2⟩ | ⟨n,h,cap,h1,h2,h3⟩
        · rw [gB] at h1;have hlt:=m.ltB h1 h2
          rcases hb.2.2 with h | ⟨h,_⟩ | ⟨_,i,cap',h,q1,q2,q3,q4⟩ | ⟨_,hnw,_⟩
          · have:w.heap.size≤b.b:=h.1;omega
          · exact h (.inl ⟨n,e,by show (s.apply _).getB n=_;rw [State.getB_apply0 s _ rfl];exact h1,h2⟩)
          · exact m.uX n e i h b.b cap' h1 q2 h2 q4
          · have:w.heap.size≤b.b:=hb.2.1 hnw;omega
        · by_cases hn:id≤n∧n<id+nh.length
          · rw [s2new n hn] at h3;exact hb.1 (in1 n h b.b cap hn h1 h3)
          · rw [s2old n hn] at h3;obtain ⟨hu,hbase,h0,q1,q2⟩:=old n h hn h1;have hlt:=m.ltH q1 h3
            rcases hb.2.2 with h | ⟨h,_⟩ | ⟨_,i,cap',hi,p1,p2,p3,p4⟩ | ⟨_,hnw,_⟩
            · have:w.heap.size≤b.b:=h.1;omega
            · have hnw:=hge (by omega);refine h (.inr ⟨n,_,cap,?_,h2,h3⟩);have:base=sk:=by simp only [base,frx,hnw];rfl
              rw [← this];exact hbase
            · exact hu (m.uH n i h0 hi b.b cap cap' q1 p2 h3 p4▸p1)
            · have:w.heap.size≤b.b:=hb.2.1 hnw;omega
      · rcases hb.2.2 with h | ⟨_,h⟩ | ⟨hc9,i,cap',hi,p1,p2,p3,p4⟩ | ⟨hc9,hnw,_⟩
        · exact .inl ⟨Nat.le_trans hn0 h.1,h.2⟩
        · exact h.2
        · rcases m.H i hi p2 with ⟨t,ts,_,_,_,hm⟩ | hM
          case inr=>exact ia (Q:=fun b=>(n0.n≤b.b∧b.c=true)∨n0.U b) hc9 (hM.blk p4).2.2
          rcases hm with ⟨h1,_⟩ | ⟨blk,cap,cells,el,h1,_,_,_,_,ho,_⟩
          · rw [h1] at p4;cases p4
          · rw [h1] at p4;cases p4;exact ia (Q:=fun b=>(n0.n≤b.b∧b.c=true)∨n0.U b) hc9 ho.2
        · exact .inl ⟨Nat.le_trans hn0 (hb.2.1 hnw),hc9⟩
    have newold:∀ n h b cap,id≤n∧n<id+nh.length→s2.getH n=some h→σ1 n=some (b,cap)→(∀ n' h' cap',¬ (id≤n'∧n'<id+nh.length)→s2.getH n'=some h'→σ n'≠some (b,cap'))∧(∀ n' e,s.getB n'=some e→β n'≠some b):=fun n h b cap hn hh hs=>by
      have:=r10 b (in1 n h b cap hn hh hs);refine ⟨fun n' h' cap' hn' hh' hs'=>?_,fun n' e hh' hs'=>?_⟩
      · obtain ⟨hu,_,h0,q1,_⟩:=old n' h' hn' hh'
        rcases this with h | h
        · exact nogiveH n' h0 b cap' hu q1 hs' h
        · have:=m.ltH q1 hs';omega
      · rcases this with h | h
        · exact nogiveB n' e b hh' hs' h
        · have:=m.ltB hh' hs';omega
    have tidy:Tidy a (fun n=>id≤n∧n<id+nh.length) s s2:=by
      refine ⟨fun n hf hn=>⟨fun q tv hq=>?_,fun q e hq=>?_,fun q h hq=>?_⟩,fun n e hh hd=>?_,fun n h hh hd=>?_⟩
      · rw [gT] at hq;exact hf.t q tv hq
      · rw [gB] at hq;exact hf.b q e hq
      · by_cases hr:id≤q∧q<id+nh.length
        · exact fun e=>hn (e▸hr)
        · obtain ⟨_,_,h0,q1,_⟩:=old q h hr hq;exact hf.h q h0 q1
      · rw [gB] at hh;exact hh
      · by_cases hr:id≤n∧n<id+nh.length
        · rw [g1 n hr.1 hr.2] at hh;have:=(okh _ (row1.get hh)).2.2;simp only at this;rw [this] at hd;cases hd
        · obtain ⟨_,_,h0,q1,q2⟩:=old n h hr hh
          rcases q2 with rfl | rfl
          · exact q1
          · cases hd
    refine ⟨σ2,⟨fun n e hh=>?_,fun n h hh=>?_,fun b b' e e' blk h h'=>?_,fun n n' h h' blk cap cap' hh hh' h1 h2=>?_,fun b e i h blk cap hb' hi h1 h2=>?_⟩,x,tidy,?_⟩
    · rw [gB] at hh;obtain ⟨blk,cells,el,q1,q2,q3,q4⟩:=m.B n e hh;exact ⟨blk,cells,el,q1,(r5 blk (BM q2) (nogiveB n e blk hh q1)).trans q2,x.relCs (fun k hk hn=>((hid k hn.1 hn.2).b n e hh).2 hk) q3,q4⟩
    · by_cases hn:id≤n∧n<id+nh.length
      · have hh':=hh;rw [show (s.apply wr).getH n=AJ nh n from g1 n hn.1 hn.2] at hh';have hnw:h.nw=ci.nw:=(okh _ (row1.get hh')).1;refine (r8.H n h hh').view rfl rfl (s2new n hn) (fun blk cap hs ho=>?_) (fun b hb=>by rw [hnw] at hb ⊢;exact stR b hb);refine ⟨fun e=>Nat.le_trans hn0 (ho.1 e),?_⟩
        rcases ho.2 with h | ⟨_,h⟩ | ⟨_,i,cap',hi,p1,p2,p3,p4⟩ | ⟨_,hcn,_⟩
        · exact .inl ⟨Nat.le_trans hn0 h.1,rfl⟩
        · exact h.2
        · rcases m.H i hi p2 with ⟨t,ts,_,_,_,hm⟩ | hM
          case inr=>exact (hM.blk p4).2.2
          rcases hm with ⟨h1,_⟩ | ⟨blk',cap,cells,el,h1,_,_,_,_,ho,_⟩
          · rw [h1] at p4;cases p4
          · rw [h1] at p4;cases p4;exact ho.2
        · exact .inl ⟨Nat.le_trans hn0 (ho.1 (hnw.trans hcn)),rfl⟩
      · obtain ⟨hu,_,h0,q1,q2⟩:=old n h hn hh;have key:RelH P n0 β σ2 s2 w' n h0:=by
          rcases m.H n h0 q1 with ⟨t,ts,ht,hts,hrl,hm⟩ | hM
          case inr=>exact .inr (hM.view rfl rfl (s2old n hn) (fun blk cap hs=>r5 blk (m.ltH q1 hs) (nogiveH n h0 blk cap hu q1 hs)) (fun _ _ _ ho=>ho))
          refine .inl ⟨t,ts,ht,hts,hrl,?_⟩
          rcases hm with ⟨p1,p2⟩ | ⟨blk,cap,cells,el,p1,p2,p3,p4,p5,p6,v',p7,p8⟩
          · exact .inl ⟨by rw [s2old n hn];exact p1,p2⟩
          · exact .inr ⟨blk,cap,cells,el,by rw [s2old n hn];exact p1,(r5 blk (BM p2) (nogiveH n h0 blk cap hu q1 p1)).trans p2,p3,p4,p5,p6,v',p7,fun i j t' hi hj=>x.rep (p8 i j t' hi hj)⟩
        rcases q2 with rfl | rfl
        · exact key
        · exact key.view (q:=n) rfl rfl rfl (fun _ _ _ h=>h) (fun b h=>h)
    · rw [gB] at h h';exact m.uB b b' e e' blk h h'
    · by_cases hn:id≤n∧n<id+nh.length<;>by_cases hn':id≤n'∧n'<id+nh.length
      · rw [s2new n hn] at h1;rw [s2new n' hn'] at h2;rw [show (s.apply wr).getH n=AJ nh n from g1 n hn.1 hn.2] at hh;rw [show (s.apply wr).getH n'=AJ nh n' from g1 n' hn'.1 hn'.2] at hh';exact r8.uH n n' h h' blk cap cap' hh hh' h1 h2
      · rw [s2new n hn] at h1;rw [s2old n' hn'] at h2;exact ((newold n h blk cap hn hh h1).1 n' h' cap' hn' hh' h2).elim
      · rw [s2old n hn] at h1;rw [s2new n' hn'] at h2;exact ((newold n' h' blk cap' hn' hh' h2).1 n h cap hn hh h1).elim
      · rw [s2old n hn] at h1;rw [s2old n' hn'] at h2;obtain ⟨_,_,h0,q1,_⟩:=old n h hn hh;obtain ⟨_,_,h0',q1',_⟩:=old n' h' hn' hh';exact m.uH n n' h0 h0' blk cap cap' q1 q1' h1 h2
    · rw [gB] at hb'
      by_cases hn:id≤i∧i<id+nh.length
      · rw [s2new i hn] at h2;exact (newold i h blk cap hn hi h2).2 b e hb' h1
      · rw [s2old i hn] at h2;obtain ⟨_,_,h0,q1,_⟩:=old i h hn hi;exact m.uX b e i h0 blk cap hb' q1 h1 h2
    · exact RelAV.moved (fun n h1 h2=>⟨s2new n ⟨h1,h2⟩,g1 n h1 h2⟩) stR okc r9
end
section
variable {E:Env} {N:Nat} {P:Program} {n0 n0':Nz} {nt:Nat} {β β':Nat→Option Nat} {σ σ':Nat→Option (Nat×Nat)} {s s':St0 E N} {a:Act} {w w':World}
def GI (s:St0 E N) (done:List Nat):Prop:=∀ n tv,s.getT n=some tv→∀ g∈tv.gs,g.1∈done
def After (P:Program) (n0:Nz) (nt:Nat) (new:Nat→Prop) (β:Nat→Option Nat) (σ:Nat→Option (Nat×Nat)) (s:St0 E N) (a:Act) (w:World) (dst:Option Nat) (wr:Wr (std E N)) (a':Act) (w':World):Prop :=
  ∃ β' σ',Sim P n0 nt β' σ' (s.apply wr) a' w'∧Ext P new β σ s w β' σ' (s.apply wr) w'∧(∀ n,Fresh a s n→¬ new n→Fresh a' (s.apply wr) n) ∧
    (∀ n e,(s.apply wr).getB n=some e→e.dirty=false→s.getB n=some e)∧(∀ n e,(s.apply wr).getH n=some e→e.dirty=false→s.getH n=some e) ∧
    a'.defers=a.defers∧∀ n,dst≠some n→a'.tmps.getD n undef=a.tmps.getD n undef
theorem EV {a:Act} {d n:Nat} {v:Value} (h:n≠d):(a.put (some d) v).tmps.getD n undef=a.tmps.getD n undef:=by
 simp only [Act.put];rw [Array.getD_eq_getD_getElem?,Array.getD_eq_getD_getElem?,Array.getElem?_setIfInBounds];rw [if_neg (fun e=>h e.symm)]
theorem Kt {a:Act} {d:Nat} {v:Value} (h:d<a.tmps.size):(a.put (some d) v).tmps.getD d undef=v:=by
 simp only [Act.put];rw [Array.getD_eq_getD_getElem?,Array.getElem?_setIfInBounds];simp [h]
theorem FT {a:Act} {d:Nat} {v:Value} {gs:List (Nat×Bool)} (h:∀ g∈gs,g.1≠d):Facts (a.put (some d) v) gs↔Facts a gs:=by
 constructor
 ·intro hf n b hm;rw [← hf n b hm,EV (h _ hm)]
 ·intro hf n b hm;rw [EV (h _ hm)];exact hf n b hm
theorem jP {n:Nat} (h:¬ n<DG):s.getT n=none:=by
 unfold State.getT Cm;cases hb:Nat.blt n DG with
 | false=>rfl
 | true=>exact (h (BV.1 hb)).elim
theorem Fw (hs : Sim P n0 nt β σ s a w) {done : List Nat} (gi : GI s done) {d : Nat} (hd : d ∉ done) (hdn : d < nt) {new : Nat → Prop} (hnew : ∀ n, new n → Fresh a s n)
    {ctx:List (Nat×Bool)} (hctx:∀ g∈ctx,g.1∈done) {av:AV (std E N)} {bs:List (Nat×Option (BEnt (std E N)))} {hh:List (Nat×Option (HEnt (std E N)))} {z:Value}
    (m:Mem P n0 β' σ' (s.apply { bs:=bs,hs:=hh }) w') (x:Ext P new β σ s w β' σ' (s.apply { bs:=bs,hs:=hh }) w') (t:Tidy a new s (s.apply { bs:=bs,hs:=hh }))
    (hz:(Facts a ctx∧RelAV P n0 β' σ' (s.apply { bs:=bs,hs:=hh }) w' av z∧∀ n,Fresh a s n→¬ new n→n∉av.names)∨(¬ Facts a ctx∧z=undef)) :
    After P n0 nt new β σ s a w (some d) { ts:=[(d,some ⟨ctx,av⟩)],bs:=bs,hs:=hh } (a.put (some d) z) w':=by
  let wr:Wr (std E N):={ ts:=[(d,some ⟨ctx,av⟩)],bs:=bs,hs:=hh }
  have gT:=fun n=>State.getT_apply1 s d (some ⟨ctx,av⟩) wr rfl n
  have sub:Sub (s.apply { bs:=bs,hs:=hh }) (s.apply wr):=Sub.of_same (fun _=>rfl) (fun _=>rfl);have x2:=(x.trans (sub.ext P (fun _=>False) β' σ' w')).weaken (fun n (h:new n∨False)=>h.elim (fun h=>h) (fun h=>h.elim));have ne:∀ {g:Nat×Bool},g.1∈done→g.1≠d:=fun hg e=>hd (e▸hg)
  have hsz:(a.put (some d) z).tmps.size=nt:=by simp [Act.put,hs.size]
  refine ⟨β',σ',⟨Nat.le_trans hs.n0le x.size,hsz,fun n tv hn=>?_,sub.mem m,(hs.kept.ext x).ext (sub.ext P (fun _=>False) β' σ' w')⟩,x2,fun n hf hn=>⟨fun k tv hk hg=>?_,fun k e he=>(t.fresh n hf hn).b k e he,fun k e he=>(t.fresh n hf hn).h k e he⟩,t.cleanB,t.cleanH,rfl,fun n hn=>EV (fun e=>hn (by rw [e]))⟩
  · rw [gT] at hn
    split at hn
    · rename_i he;cases hn;rw [he.1,Kt (by rw [hs.size];exact hdn)]
      rcases hz with ⟨h1,h2,_⟩ | ⟨h1,h2⟩
      · exact .inl ⟨(FT (fun g hg=>ne (hctx g hg))).2 h1,(sub.ext P (fun _=>False) β' σ' w').relAV (fun _ _ h=>h) h2⟩
      · exact .inr ⟨fun h=>h1 ((FT (fun g hg=>ne (hctx g hg))).1 h),h2⟩
    · rename_i he;have hnd:n≠d:=fun e=>by
        by_cases hb:d<DG
        · exact he ⟨e,hb⟩
        · rw [e,jP hb] at hn;cases hn
      rw [EV hnd];have hg:∀ g∈tv.gs,g.1≠d:=fun g hg=>ne (gi n tv hn g hg)
      rcases hs.T n tv hn with ⟨h1,h2⟩ | ⟨h1,h2⟩
      · exact .inl ⟨(FT hg).2 h1,x2.relAV (fun k hk hnw=>(hnew k hnw).t n tv hn h1 hk) h2⟩
      · exact .inr ⟨fun h=>h1 ((FT hg).1 h),h2⟩
  · rw [gT] at hk
    split at hk
    · rename_i he;cases hk;have hg':=(FT (fun g hg=>ne (hctx g hg))).1 hg
      rcases hz with ⟨_,_,h3⟩ | ⟨h1,_⟩
      · exact h3 n hf hn
      · exact (h1 hg').elim
    · exact hf.t k tv hk ((FT (fun g hg=>ne (gi k tv hk g hg))).1 hg)
theorem GI.put {done:List Nat} (gi:GI s done) {d:Nat} {ctx:List (Nat×Bool)} (hctx:∀ g∈ctx,g.1∈done) {av:AV (std E N)} {wr:Wr (std E N)} (hw:wr.ts=[(d,some ⟨ctx,av⟩)]):GI (s.apply wr) (d::done):=by
 intro n tv hn g hg;rw [State.getT_apply1 s d _ wr hw] at hn
 split at hn
 ·cases hn;exact zzn _ (hctx g hg)
 ·exact zzn _ (gi n tv hn g hg)
theorem Uu (hs : Sim P n0 nt β σ s a w) {new : Nat → Prop} (hnew : ∀ n, new n → Fresh a s n) {wr : Wr (std E N)} (ht0 : wr.ts = [])
    (m:Mem P n0 β' σ' (s.apply wr) w') (x:Ext P new β σ s w β' σ' (s.apply wr) w') (t:Tidy a new s (s.apply wr)):After P n0 nt new β σ s a w none wr a w':=by
  refine ⟨β',σ',⟨Nat.le_trans hs.n0le x.size,hs.size,fun n tv hn=>?_,m,hs.kept.ext x⟩,x,t.fresh,t.cleanB,t.cleanH,rfl,fun _ _=>rfl⟩;rw [State.getT_apply0 s wr ht0] at hn
  rcases hs.T n tv hn with ⟨h1,h2⟩ | ⟨h1,h2⟩
  · exact .inl ⟨h1,x.relAV (fun k hk hnw=>(hnew k hnw).t n tv hn h1 hk) h2⟩
  · exact .inr ⟨h1,h2⟩
theorem aO (hs : Sim P n0 nt β σ s a w) {done : List Nat} (gi : GI s done) {ops : Array Oper} {o : Oper} {ctx : List (Nat × Bool)} {k k' : Nat} (h : RM.run s (Sc (O := std E N) ops.toList o) k = .ok (ctx, k'))
    (hg:∀ j want d,o.guard=some (j,want)→(ops[j]?).bind (·.dst)=some d→d∈done) :
    (Region.wanted o (yielded ops a.tmps)=true↔Facts a ctx)∧(∀ g∈ctx,g.1∈done)∧(o.guard=none→ctx=[]):=by
  unfold Sc at h
  split at h
  · rename_i hn;cases zzc h;exact ⟨⟨fun _ n b hm=>by simp at hm,fun _=>by simp [Region.wanted,hn]⟩,fun g hm=>by simp at hm,fun _=>rfl⟩
  · rename_i j want hn
    split at h
    · rename_i d hd;obtain ⟨k1,h⟩:=zze h;cases ht:s.getT d with
      | none=>rw [ht] at h;exact (zzb h).elim
      | some tv =>
        rw [ht] at h;cases zzc h;have hd':(ops[j]?).bind (·.dst)=some d:=by rw [← Array.getElem?_toList];exact hd
        have hdd:=hg j want d hn hd';have hy:yielded ops a.tmps j=some want↔a.tmps.getD d undef=.bool want:=by
          unfold yielded;rw [hd',Option.bind_some,Array.getD_eq_getD_getElem?];cases hx:a.tmps[d]? with
          | none=>simp [undef]
          | some v=>cases v<;>simp
        have hw:Region.wanted o (yielded ops a.tmps)=true↔a.tmps.getD d undef=.bool want:=by
          rw [← hy];simp [Region.wanted,hn]
        refine ⟨⟨fun h=>?_,fun hf=>hw.2 (hf d want zzm)⟩,fun g hm=>?_,fun h=>by rw [hn] at h;cases h⟩
        · have hv:=hw.1 h
          rcases hs.T d tv ht with ⟨h1,_⟩ | ⟨_,h2⟩
          · intro n b hm
            rcases List.mem_cons.1 hm with e | hm
            · cases e;exact hv
            · exact h1 n b hm
          · rw [hv] at h2;simp [undef] at h2
        · rcases List.mem_cons.1 hm with rfl | hm
          · exact hdd
          · exact gi d tv ht g hm
    · exact (zzb h).elim
theorem Hw:∀ {gs:List (Nat×Bool)} {m m':Nat},RM.run s (UL (O:=std E N) gs) m=.ok (none,m')→gs=[]
 | [],_,_,_=>rfl
 | (n,want)::r,m,m',h=>by
  obtain ⟨m1,h⟩:=zze h
  split at h
  ·obtain ⟨g,m2,h1,h2⟩:=zza h;have:=zzc h2;cases this
  ·exact (zzb h).elim
theorem YZ:∀ {fr l:List (Nat×Option (HEnt (std E N)))} {k k':Nat},RM.run s (ZU (O:=std E N) fr) k=.ok (l,k')→FrOK s l∧(FrOK s fr→l=fr)
 | [],l,k,k',h=>by cases zzc h;exact ⟨fun _ _ hm=>by simp at hm,fun _=>rfl⟩
 | (n,v)::r,l,k,k',h=>by
  obtain ⟨k1,h⟩:=zzf h;cases hh:s.getH n with
  | none=>rw [hh] at h;exact (zzb h).elim
  | some e =>
   rw [hh] at h;obtain ⟨l2,k2,h1,h2⟩:=zza h;cases zzc h2;obtain ⟨a1,a2⟩:=YZ h1;refine ⟨fun q v hm=>?_,fun hf=>?_⟩
   ·rcases List.mem_cons.1 hm with e1 | hm
    ·cases e1;exact ⟨e,hh,rfl⟩
    ·exact a1 q v hm
   ·obtain ⟨h0,q1,q2⟩:=hf n v zzm;rw [hh] at q1;cases q1;rw [a2 (fun q v hm=>hf q v (zzn _ hm)),q2]
end
open Go.RowKit Go
variable {P:Program} {w:World}
theorem fB {em : Bool} {d : Nat} : ∀ (fl : List Field) (off : Nat) (a : List Int), LY P off fl = true → a.length = off + fl.length →
    (forIn (m:=Sem) fl PUnit.unit (fun f r =>
      if f.name ≠ "_" then do
        let x ← part f.type (a.map (Value.int .i64)).toArray f.offset
        Instr.checkKey em (d+1) f.type x
        pure (ForInStep.yield PUnit.unit)
      else pure (ForInStep.yield PUnit.unit))).run P w=.ok PUnit.unit w
  | [],off,a,_,_=>by simp
  | f::fl,off,a,h,hl=>by
    unfold LY at h
    split at h
    · rename_i h1 h2;simp only [zzk,bne_iff_ne,ne_eq] at h1;obtain ⟨ho,hn⟩:=h1;have hp:P.plainKey f.type=true:=by unfold Program.plainKey;rw [h2]
      have ho:=AA.1 ho;have hlt:off<a.length:=by rw [hl,List.length_cons];omega
      have hx:(a.map (Value.int .i64)).toArray[f.offset]?=some (.int .i64 a[off]):=by
        rw [ho];simp [zzo hlt]
      have p1:=run_part_plain w hp hx;have p2:(Instr.checkKey em (d+1) f.type (.int .i64 a[off])).run P w=.ok () w:=by
        rw [Instr.checkKey];simp [run_underlying h2,Result.andThen]
      have ih:=fB (em:=em) (d:=d) fl (off+1) a h (by rw [hl,List.length_cons];omega);simp only [List.forIn_cons,Sem.run_bind,hn,ne_eq,not_false_eq_true,if_true,Result.andThen_ok,p1,p2,Sem.run_pure];exact ih
    · cases h
theorem lO {d : Nat} : ∀ (fl : List Field) (off : Nat) (a b : List Int), LY P off fl = true → a.length = off + fl.length → b.length = off + fl.length →
    (Op.eqFields (d+1) (a.map (Value.int .i64)).toArray (b.map (Value.int .i64)).toArray fl).run P w=.ok (a.drop off==b.drop off) w
  | [],off,a,b,_,ha,hb=>by
    rw [List.drop_of_length_le (by simpa using Nat.le_of_eq ha),List.drop_of_length_le (by simpa using Nat.le_of_eq hb)];simp [Op.eqFields]
  | f::fl,off,a,b,h,ha,hb=>by
    unfold LY at h
    split at h
    · rename_i h1 h2;simp only [zzk,bne_iff_ne,ne_eq] at h1;obtain ⟨ho,hn⟩:=h1;have hp:P.plainKey f.type=true:=by unfold Program.plainKey;rw [h2]
      have ho:=AA.1 ho;have la:off<a.length:=by rw [ha,List.length_cons];omega
      have lb:off<b.length:=by rw [hb,List.length_cons];omega
      have p1:=run_part_plain w hp (xs:=(a.map (Value.int .i64)).toArray) (off:=f.offset) (v:=.int .i64 a[off]) (by rw [ho];simp [zzo la]);have p2:=run_part_plain w hp (xs:=(b.map (Value.int .i64)).toArray) (off:=f.offset) (v:=.int .i64 b[off]) (by rw [ho];simp [zzo lb]);have p3:(Op.equalIn (d+1) f.type (.int .i64 a[off]) (.int .i64 b[off])).run P w=.ok (a[off]==b[off]) w:=by
        rw [Op.equalIn];simp [run_underlying h2,Result.andThen]
      have ih:=lO (d:=d) fl (off+1) a b h (by rw [ha,List.length_cons];omega) (by rw [hb,List.length_cons];omega);have e:(a.drop off==b.drop off)=(a[off]==b[off]&&a.drop (off+1)==b.drop (off+1)):=by
        rw [List.drop_eq_getElem_cons la,List.drop_eq_getElem_cons lb];rfl
      rw [e];simp only [Op.eqFields,ne_eq,hn,not_false_eq_true,if_true,Sem.run_bind,p1,p2,p3,Result.andThen_ok];cases hc:(a[off]==b[off]) with
      | true=>simp only [Bool.not_true,if_false,Bool.false_eq_true,ih,Bool.true_and]
      | false=>simp [Bool.false_and]
    · cases h
theorem Wz {K:TypeId} {n:Nat} (h:Us P K n=true) {a:List Int} (ha:a.length=n) (em:Bool):(Instr.checkKey em 10000 K (DC a)).run P w=.ok () w:=by
 unfold Us at h
 split at h
 ·rename_i fs hu;simp only [zzk,Bool.not_eq_true'] at h;obtain ⟨⟨h1,h2⟩,h3⟩:=h;have h2:=AA.1 h2;have r:=fB (P:=P) (w:=w) (em:=em) (d:=9998) fs.toList 0 a h1 (by omega);rw [show (10000:Nat)=9999+1 from rfl,Instr.checkKey];simp only [Sem.run_bind,run_underlying hu,Result.andThen_ok,DC];rw [← Array.forIn_toList];have r2:=congrArg (fun z=>z.andThen fun (_:PUnit) w'=>(pure ():Sem Unit).run P w') r;exact r2.trans (by simp)
 ·cases h
theorem uI {K:TypeId} {n:Nat} (h:Us P K n=true) {a b:List Int} (ha:a.length=n) (hb:b.length=n):(Op.equal K (DC a) (DC b)).run P w=.ok (a==b) w:=by
 unfold Us at h
 split at h
 ·rename_i fs hu;simp only [zzk,Bool.not_eq_true'] at h;obtain ⟨⟨h1,h2⟩,h3⟩:=h;have h2:=AA.1 h2;have hfo:P.fieldsOf K=fs:=by unfold Program.fieldsOf;rw [hu]
  unfold Op.equal;rw [show Op.maxDepth=9999+1 from rfl];unfold DC;rw [run_equalIn_struct w 9999 K _ _ (by rw [hfo];exact hu) h3,hfo,show (9999:Nat)=9998+1 from rfl,lO fs.toList 0 a b h1 (by omega) (by omega)];rfl
 ·cases h
theorem gp (n:Nat):∀ (i:Nat) (L:Rows) (j:Nat),j<L.length→(Cp n i L)[j]?=some (ent n (i+j) (AK L j))
 | _,[],j,h=>absurd h (Nat.not_lt_zero j)
 | i,r::L,0,h=>rfl
 | i,r::L,j+1,h=>by
  have:=gp n (i+1) L j (Nat.lt_of_succ_lt_succ h);rw [show i+(j+1)=i+1+j by omega];exact this
theorem dP (n:Nat) (k:List Int):∀ L:Rows,Aj n k L≤L.length
 | []=>Nat.le_refl _
 | r::L=>by
  unfold Aj;have:=dP n k L;cases k==Bt n r
  ·exact Nat.succ_le_succ this
  ·exact Nat.zero_le _
theorem Zm (n:Nat) (k:List Int):∀ L:Rows,Aj n k L<L.length→Bt n (AK L (Aj n k L))=k
 | [],h=>absurd h (Nat.not_lt_zero _)
 | r::L,h=>by
  unfold Aj at h ⊢;cases hk:k==Bt n r with
  | true=>exact (beq_iff_eq.1 hk).symm
  | false =>
   rw [hk] at h;exact Zm n k L (Nat.lt_of_succ_lt_succ h)
theorem cc {K : TypeId} {n : Nat} (h : Us P K n = true) {k : List Int} (hk : k.length = n) : ∀ (L : Rows) (i j : Nat), (∀ r ∈ L, n ≤ r.length) →
    (Instr.findAsking K (DC k) (Cp n i L) j).run P w=.ok (if Aj n k L<L.length then some (j+Aj n k L,.int .i64 (pvI (AF L (Aj n k L) n))) else none) w
  | [],i,j,_=>by simp [Cp,Instr.findAsking,Aj]
  | r::L,i,j,hr=>by
    have hl:(Bt n r).length=n:=by
      unfold Bt;rw [List.length_map,List.length_take];have:=hr r zzm;omega
    have e:=uI (P:=P) (w:=w) h hk hl;have ih:=cc h hk L (i+1) (j+1) (fun x hx=>hr x (zzn _ hx));unfold Cp Instr.findAsking;unfold Aj;simp only [Sem.run_bind,ent,e,Result.andThen_ok];cases hc:k==Bt n r with
    | true=>simp [AF,AK]
    | false =>
      simp only [Bool.false_eq_true,if_false,cond_false,ih,List.length_cons]
      by_cases hm:Aj n k L<L.length
      · rw [if_pos hm,if_pos (by omega)];simp only [AF,AK];congr 3;omega
      · rw [if_neg hm,if_neg (by omega)]
theorem Y4 {K : TypeId} {n : Nat} (h : Us P K n = true) {k : List Int} (hk : k.length = n) (L : Rows) (hr : ∀ r ∈ L, n ≤ r.length) :
    (Instr.findKey K (DC k) (Cp n 0 L)).run P w=.ok (if Aj n k L<L.length then some (Aj n k L,.int .i64 (pvI (AF L (Aj n k L) n))) else none) w:=by
  have ra:=cc (P:=P) (w:=w) h hk L 0 0 hr;rw [Nat.zero_add] at ra;have hu:∃ fs,P.underlying K=some (.struct fs):=by
    unfold Us at h
    split at h
    · rename_i fs hu;exact ⟨fs,hu⟩
    · cases h
  obtain ⟨fs,hu⟩:=hu;unfold Instr.findKey;simp only [Sem.run_bind,run_underlying hu,Result.andThen_ok];cases L with
  | nil=>simp [Cp,Instr.findNow,Aj]
  | cons r L =>
    have:Instr.findNow (.struct fs) (DC k) (Cp n 0 (r::L)) 0=none:=rfl;rw [this];exact ra
theorem Xe (n:Nat):∀ (i:Nat) (L:Rows) (r:List PV),Cp n i (L++[r])=Cp n i L++[ent n (i+L.length) r]
 | i,[],r=>rfl
 | i,x::L,r=>by
  show ent n i x::Cp n (i+1) (L++[r])=ent n i x::(Cp n (i+1) L++[ent n (i+(L.length+1)) r]);rw [Xe n (i+1) L r,show i+1+L.length=i+(L.length+1) by omega]
theorem kP (n:Nat) (f:MapEntry→MapEntry) (r':List PV):∀ (i:Nat) (L:Rows) (j:Nat),f (ent n (i+j) (AK L j))=ent n (i+j) r'→(Cp n i L).modify j f=Cp n i (L.set j r')
 | i,[],j,_=>by simp [Cp]
 | i,x::L,0,h=>by
  show f (ent n i x)::Cp n (i+1) L=ent n i r'::Cp n (i+1) L;rw [show f (ent n i x)=ent n i r' from h]
 | i,x::L,j+1,h=>by
  have ih:=kP n f r' (i+1) L j (by
   rw [show i+1+j=i+(j+1) by omega];exact h)
  show ent n i x::(Cp n (i+1) L).modify j f=ent n i x::Cp n (i+1) (L.set j r');rw [ih]
theorem Ur (n:Nat) (v:Int) (r:List PV):Bt n (I0 n v r)=Bt n r:=by
 show ((r.set n (.int v)).take n).map pvI=(r.take n).map pvI;rw [List.take_set_of_le (Nat.le_refl n)]
theorem VR {n:Nat} {v:Int} {r:List PV} (h:n<r.length):pvI (AD (I0 n v r) n)=v:=by
 show pvI ((r.set n (.int v)).getD n (.int 0))=v;rw [zzl,List.getElem?_set_self h];rfl
theorem kK (n:Nat) (v:Int) (r:List PV):(I0 n v r).length=r.length:=List.length_set
theorem Y9 {n i:Nat} {k:List Int} {v:Int} (hk:k.length=n):ent n i (NQ k v)={ key:=DC k,val:=.int .i64 v,born:=i }:=by
 have e1:Bt n (NQ k v)=k:=by
  unfold Bt NQ;rw [List.take_append_of_le_length (by rw [List.length_map];omega),List.take_of_length_le (by rw [List.length_map];omega),List.map_map]
  conv=>rhs;rw [← List.map_id k]
  rfl
 have e2:pvI (AD (NQ k v) n)=v:=by
  unfold NQ AD;rw [zzl,List.getElem?_append_right (by rw [List.length_map];omega),List.length_map,hk,Nat.sub_self];rfl
 unfold ent;rw [e1,e2]
theorem lK {n:Nat} {k:List Int} {L:Rows} (h:¬ Aj n k L<L.length):FG n k L=0:=by
 unfold FG AF AK;rw [zzl,List.getElem?_eq_none (by omega)];rfl
theorem gI (a:List Int):Instr.sameBits 10000 (DC a) (DC a)=true:=by
 show ((a.map (Value.int .i64)).toArray.size==(a.map (Value.int .i64)).toArray.size&&((a.map (Value.int .i64)).toArray.toList.zip (a.map (Value.int .i64)).toArray.toList).all fun (x,y)=>Instr.sameBits 9999 x y)=true;rw [beq_self_eq_true,Bool.true_and];simp only [List.all_eq_true];intro p hp;obtain ⟨x,y⟩:=p;have hz:x=y:=by
  have:=List.mem_iff_getElem.1 hp;obtain ⟨i,hi,e⟩:=this;rw [List.getElem_zip] at e;cases e;rfl
 subst hz;have hx:=(List.of_mem_zip hp).1;obtain ⟨i,_,rfl⟩:=List.mem_map.1 (by simpa using hx);simp [Instr.sameBits]
theorem ff (a:List Int):(Instr.keyThatStays (DC a) (DC a)).run P w=.ok (DC a) w:=by
 unfold Instr.keyThatStays;rw [gI];rfl
theorem XY {T:TypeId} {n:Nat} (h:MM P T n=true):∃ K V,P.underlying T=some (.map K V)∧Us P K n=true∧P.underlying V=some (.int .i64)∧∀ w,(zeroValue V).run P w=.ok (.int .i64 0) w:=by
 unfold MM at h
 split at h
 ·rename_i K V hu;rw [zzk,zzk] at h;obtain ⟨⟨h1,h2⟩,h3⟩:=h;refine ⟨K,V,hu,h1,?_,fun w=>?_⟩
  ·split at h2
   ·assumption
   ·cases h2
  ·split at h3
   ·rename_i i hi
    split at h3
    ·rename_i z hz;have:=beq_iff_eq.1 h3;subst this;unfold zeroValue;simp only [Sem.run_bind,run_typeInfo w hi,Result.andThen_ok,hz,Sem.run_pure]
    ·cases h3
   ·cases h3
 ·cases h
section
variable {T:TypeId} {n r:Nat} {k:List Int} {L:Rows}
def World.withMap (w:World) (n r:Nat) (L:Rows):World:={ w with heap:=w.heap.setIfInBounds r (.map (Cp n 0 L).toArray L.length) }
theorem mZ {n0:Nat} {L0:Rows} (hb:OB w n0 r L0):OB (World.withMap w n r L) n r L:=(MapKept.heap_set hb).1
theorem aU (h : MM P T n = true) (hk : k.length = n) (hr : ∀ x ∈ L, x.length = n + 1)
    (hb:OB w n r L):(Instr.lookup T (.map (some r)) (DC k) false).run P w=.ok (.int .i64 (FG n k L)) w:=by
  obtain ⟨K,V,hT,hK,hV,hz⟩:=XY h;have f:=Y4 (P:=P) (w:=w) hK hk L (fun x hx=>by rw [hr x hx];omega);unfold Instr.lookup;simp only [Sem.run_bind,run_underlying hT,MapKept.run_getObj_map hb,Wz (P:=P) (w:=w) hK hk,f,Result.andThen_ok,Sem.run_pure]
  by_cases hm:Aj n k L<L.length
  · rw [if_pos hm];simp [FG]
  · rw [if_neg hm];simp [hz,lK hm,Result.andThen]
theorem dJ {j:Nat} (hj:j<L.length):(Cp n 0 L).toArray[j]?=some (ent n j (AK L j)):=by
 rw [List.getElem?_toArray,gp n 0 L j hj,Nat.zero_add]
theorem iu {j:Nat} {f:MapEntry→MapEntry} {r':List PV} (h:f (ent n j (AK L j))=ent n j r'):(Cp n 0 L).toArray.modify j f=(Cp n 0 (L.set j r')).toArray:=by
 apply Array.ext';rw [Array.toList_modify];exact kP n f r' 0 L j (by rw [Nat.zero_add];exact h)
theorem bF (h : MM P T n = true) (hk : k.length = n) (hr : ∀ x ∈ L, x.length = n + 1) (v : Int)
    (hb:OB w n r L):(Instr.mapUpdate T (.map (some r)) (DC k) (.int .i64 v)).run P w=.ok () (World.withMap w n r (Nm n k v L)):=by
  obtain ⟨K,V,hT,hK,hV,hz⟩:=XY h;have f:=Y4 (P:=P) (w:=w) hK hk L (fun x hx=>by rw [hr x hx];omega);unfold Instr.mapUpdate;simp only [Sem.run_bind,run_underlying hT,MapKept.run_getObj_map hb,Wz (P:=P) (w:=w) hK hk,f,Result.andThen_ok,Sem.run_pure];unfold World.withMap Nm
  by_cases hm:Aj n k L<L.length
  · have hky:=Zm n k L hm;have hlen:(AK L (Aj n k L)).length=n+1:=hr _ (by
      unfold AK;rw [zzl,zzo hm];exact List.getElem_mem hm)
    have e2:Nat.blt (Aj n k L) L.length=true:=Nat.ble_eq_true_of_le hm;have e1:((Option.map (fun x:MapEntry=>x.key) (Cp n 0 L).toArray[Aj n k L]?).getD (DC k))=DC k:=by
      rw [dJ hm];show DC (Bt n (AK L (Aj n k L)))=DC k;rw [hky]
    rw [if_pos hm,e2,cond_true];simp only [Sem.run_bind,e1,ff,Result.andThen_ok,MapKept.run_setObj_map _ hb];congr 2;rw [iu (r':=I0 n v (AK L (Aj n k L)))]
    · rw [List.length_set]
    · unfold ent;rw [Ur,hky,VR (by omega)]
  · have e2:Nat.blt (Aj n k L) L.length=false:=Bool.eq_false_iff.2 fun hc=>hm (Nat.le_of_ble_eq_true hc)
    rw [if_neg hm,e2,cond_false];simp only [MapKept.run_setObj_map _ hb];congr 2;rw [List.length_append,List.length_singleton,Xe,Y9 hk,Nat.zero_add];simp
theorem dg (h : MM P T n = true) (hk : k.length = n) (hr : ∀ x ∈ L, x.length = n + 1)
    (hb:OB w n r L):(Instr.mapEntry T (.map (some r)) (DC k)).run P w=.ok (.tuple #[.int .i64 (FG n k L),.int .i64 (Aj n k L:Nat)]) (World.withMap w n r (Nm n k (FG n k L) L)):=by
  obtain ⟨K,V,hT,hK,hV,hz⟩:=XY h;have f:=Y4 (P:=P) (w:=w) hK hk L (fun x hx=>by rw [hr x hx];omega);have ml:=dP n k L;unfold Instr.mapEntry;simp only [Sem.run_bind,run_underlying hT,MapKept.run_getObj_map hb,Wz (P:=P) (w:=w) hK hk,f,Result.andThen_ok,Sem.run_pure];unfold World.withMap Nm
  by_cases hm:Aj n k L<L.length
  · have hky:=Zm n k L hm;have hlen:(AK L (Aj n k L)).length=n+1:=hr _ (by
      unfold AK;rw [zzl,zzo hm];exact List.getElem_mem hm)
    have e2:Nat.blt (Aj n k L) L.length=true:=Nat.ble_eq_true_of_le hm;have e1:((Option.map (fun x:MapEntry=>x.key) (Cp n 0 L).toArray[Aj n k L]?).getD (DC k))=DC k:=by
      rw [dJ hm];show DC (Bt n (AK L (Aj n k L)))=DC k;rw [hky]
    have e3:((Option.map (fun x:MapEntry=>(x.born:Int)) (Cp n 0 L).toArray[Aj n k L]?).getD 0)=(Aj n k L:Int):=by
      rw [dJ hm];rfl
    rw [if_pos hm,e2,cond_true];simp only [Sem.run_bind,e1,e3,ff,Result.andThen_ok,MapKept.run_setObj_map _ hb,Sem.run_pure];rw [iu (r':=I0 n (FG n k L) (AK L (Aj n k L)))]
    · rw [List.length_set];rfl
    · unfold ent;rw [Ur,hky,VR (by omega)];rfl
  · have e2:Nat.blt (Aj n k L) L.length=false:=Bool.eq_false_iff.2 fun hc=>hm (Nat.le_of_ble_eq_true hc)
    have e4:Aj n k L=L.length:=by omega
    rw [if_neg hm,e2,cond_false];simp only [Sem.run_bind,hz,Result.andThen_ok,MapKept.run_setObj_map _ hb,Sem.run_pure,lK hm,e4];rw [List.length_append,List.length_singleton,Xe,Y9 hk,Nat.zero_add];simp [goInt]
theorem fT:∀ (i:Nat) (L:Rows) (j:Nat),j<L.length→(Cp n i L).findIdx? (fun e=>(e.born:Int)==((i+j:Nat):Int))=some j
 | _,[],j,h=>absurd h (Nat.not_lt_zero j)
 | i,x::L,0,_=>by
  show List.findIdx? _ (ent n i x::Cp n (i+1) L)=some 0;rw [List.findIdx?_cons];simp [ent]
 | i,x::L,j+1,h=>by
  have ih:=fT (i+1) L j (Nat.lt_of_succ_lt_succ h);show List.findIdx? _ (ent n i x::Cp n (i+1) L)=some (j+1);rw [List.findIdx?_cons];have hne:(((ent n i x).born:Int)==((i+(j+1):Nat):Int))=false:=beq_eq_false_iff_ne.2 (by
   show (i:Int)≠_;omega)
  rw [hne];rw [show i+(j+1)=i+1+j by omega,ih];rfl
theorem eV (hr : ∀ x ∈ L, x.length = n + 1) {j : Nat} (hj : j < L.length) (v : Int)
    (hb:OB w n r L):(Instr.entryStore T (.map (some r)) (.int .i64 (j:Nat)) (.int .i64 v)).run P w=.ok () (World.withMap w n r (L.set j (I0 n v (AK L j)))):=by
  have hlen:(AK L j).length=n+1:=hr _ (by
    unfold AK;rw [zzl,zzo hj];exact List.getElem_mem hj)
  have fb:=fT (n:=n) 0 L j hj;rw [Nat.zero_add] at fb;have fa:(Cp n 0 L).toArray.findIdx? (fun e=>(e.born:Int)==(j:Int))=some j:=by
    rw [List.findIdx?_toArray];exact fb
  unfold Instr.entryStore;simp only [Sem.run_bind,MapKept.run_getObj_map hb,Result.andThen_ok,asInt,asIntOf,Sem.run_pure,fa,MapKept.run_setObj_map _ hb];unfold World.withMap;rw [iu (r':=I0 n v (AK L j))]
  · rw [List.length_set]
  · unfold ent;rw [Ur,VR (by omega)]
end
end Go.Px
end
section
namespace Go.Px
theorem i9 (n:Nat) (k:List Int) (v:Int):∀ (L:Rows) (j:Nat),Aj n k (L.set j (I0 n v (AK L j)))=Aj n k L
 | [],j=>rfl
 | r::L,0=>by
  show cond (k==Bt n (I0 n v r)) 0 (Aj n k L+1)=_;rw [Ur];rfl
 | r::L,j+1=>by
  show cond (k==Bt n r) 0 (Aj n k (L.set j (I0 n v (AK L j)))+1)=_;rw [i9 n k v L j];rfl
theorem jA (n:Nat) (k:List Int) (r:List PV):∀ L:Rows,Aj n k (L++[r])=(if Aj n k L<L.length then Aj n k L else L.length+(cond (k==Bt n r) 0 1))
 | []=>by
  show cond (k==Bt n r) 0 (0+1)=if (0:Nat)<0 then _ else _
  rw [if_neg (Nat.lt_irrefl 0),List.length_nil];cases k==Bt n r<;>rfl
 | x::L=>by
  have ih:=jA n k r L;show cond (k==Bt n x) 0 (Aj n k (L++[r])+1)=if cond (k==Bt n x) 0 (Aj n k L+1)<L.length+1 then cond (k==Bt n x) 0 (Aj n k L+1) else L.length+1+_
  cases k==Bt n x with
  | true =>
   simp only [cond_true];rw [if_pos (Nat.succ_pos _)]
  | false =>
   simp only [cond_false];rw [ih]
   by_cases h:Aj n k L<L.length
   ·rw [if_pos h,if_pos (Nat.succ_lt_succ h)]
   ·rw [if_neg h,if_neg (by omega)];omega
theorem pj {n:Nat} {k:List Int} {v:Int} (hk:k.length=n):Bt n (NQ k v)=k:=by
 have:=Y9 (n:=n) (i:=0) (v:=v) hk;unfold ent at this;have e:=congrArg MapEntry.key this;unfold Bt NQ;rw [List.take_append_of_le_length (by rw [List.length_map];omega),List.take_of_length_le (by rw [List.length_map];omega),List.map_map]
 conv=>rhs;rw [← List.map_id k]
 rfl
theorem qg {n:Nat} {k:List Int} {v:Int} (hk:k.length=n):pvI (AD (NQ k v) n)=v:=by
 unfold NQ AD;rw [zzl,List.getElem?_append_right (by rw [List.length_map];omega),List.length_map,hk,Nat.sub_self];rfl
def ri (n:Nat) (L:Rows):Prop:=∀ x∈L,x.length=n+1
theorem fD {n:Nat} {k:List Int} {v:Int} {L:Rows} (hk:k.length=n) (h:ri n L):ri n (Nm n k v L):=by
 unfold Nm;cases hb:Nat.blt (Aj n k L) L.length with
 | true =>
  have hm:Aj n k L<L.length:=Nat.le_of_ble_eq_true hb;intro x hx;rw [cond_true] at hx
  rcases List.mem_or_eq_of_mem_set hx with hx | rfl
  ·exact h x hx
  ·rw [kK];refine h _ ?_;unfold AK;rw [zzl,zzo hm];exact List.getElem_mem hm
 | false =>
  intro x hx;rw [cond_false] at hx
  rcases List.mem_append.1 hx with hx | hx
  ·exact h x hx
  ·rw [List.mem_singleton.1 hx];unfold NQ;rw [List.length_append,List.length_map,hk];rfl
section
variable {E:Env} {N:Nat} {P:Program} {n0:Nz} {nt:Nat} {β:Nat→Option Nat} {σ:Nat→Option (Nat×Nat)} {s s':St0 E N} {a:Act} {w w':World}
theorem Wn (m : Mem P n0 β σ s w) {id : Nat} {en h : HEnt (std E N)} (hh : s.getH id = some en) (hfz : en.frozen = false) {wr : Wr (std E N)} (ht0 : wr.ts = []) (hb : wr.bs = [])
    (hws:wr.hs=[(id,some h)]) (hd:h.dirty=true) (hz:h.frozen=false) (hle:h.e=en.e) (hll:(∃ t,AH P t=.sl en.e)→h.l.length=en.l.length) (ho:w'.os=w.os) (htp:w'.tape=w.tape) (hout:w'.output=w.output)
    (hsize:w'.heap.size=w.heap.size) (hother:∀ b,(∀ cap,σ id≠some (b,cap))→w'.heap[b]?=w.heap[b]?)
    (hrel:Ext P (fun _=>False) β σ s w β σ (s.apply wr) w'→RelH P n0 β σ (s.apply wr) w' id h) :
    Mem P n0 β σ (s.apply wr) w'∧Ext P (fun _=>False) β σ s w β σ (s.apply wr) w'∧Tidy a (fun _=>False) s (s.apply wr):=by
  have gB:=fun n=>State.getB_apply0 s wr hb n
  have gs:∀ n,(s.apply wr).getH n=if n=id then some h else s.getH n:=fun n=>by
    unfold State.apply State.getH;simp only [hws,Ay];exact As _ _ _ _
  have hget:(s.apply wr).getH id=some h:=by rw [gs,if_pos rfl]
  have fget:∀ n h',n≠id→(s.apply wr).getH n=some h'→s.getH n=some h':=fun n h' hn he=>by rwa [gs,if_neg hn] at he
  have hin:∀ blk cap,σ id=some (blk,cap)→InM β σ s blk:=fun blk cap hs=>.inr ⟨id,en,cap,hh,hfz,hs⟩
  have hoth:∀ b,¬ InM β σ s b→w'.heap[b]?=w.heap[b]?:=fun b hm=>hother b (fun cap hs=>hm (hin b cap hs))
  have x:Ext P (fun _=>False) β σ s w β σ (s.apply wr) w':=by
    refine ⟨ho,htp,hout,by omega,fun b hb hm=>hoth b hm,fun b hb=>.inl ?_,fun b e he hn=>?_,fun n e he hn=>?_⟩
    · rcases hb with ⟨n,e,he,hb⟩ | ⟨n,e,cap',he,hfz',hb⟩
      · rw [gB] at he;exact .inl ⟨n,e,he,hb⟩
      · by_cases hid:n=id
        · rw [hid] at hb;exact hin b cap' hb
        · exact .inr ⟨n,e,cap',fget n e hid he,hfz',hb⟩
    · rw [gB] at he;exact ⟨⟨e,he⟩,rfl⟩
    · by_cases hid:n=id
      · subst hid;rw [hget] at he;cases he;exact ⟨en,hh,rfl,hle,hll⟩
      · exact ⟨e,fget n e hid he,rfl,rfl,fun _=>rfl⟩
  refine ⟨Qg (id:=id) m x (fun n e he=>?_) (fun n e blk' he hb=>?_) (fun n h' hn he=>?_) (fun n h' blk' cap' hn he hs=>?_) (fun h' he=>?_) (fun blk' cap' hs=>?_),x,⟨fun n hfn _=>?_,fun n e he hd'=>?_,fun n e he hd'=>?_⟩⟩
  · rw [gB] at he;exact ⟨e,he,rfl,fun _ _ h=>h⟩
  · rw [gB] at he;exact hother blk' (fun cap hs=>m.uX n e id en blk' cap he hh hb hs)
  · exact ⟨h',fget n h' hn he,rfl,rfl,rfl,fun h=>h,rfl⟩
  · exact hother blk' (fun cap hs2=>hn (m.uH n id h' en blk' cap' cap (fget n h' hn he) hh hs hs2))
  · rw [hget] at he;cases he;exact hrel x
  · refine ⟨fun n e he hb=>?_,fun n h' cap'' hn he hs2=>?_⟩
    · rw [gB] at he;exact m.uX n e id en blk' cap' he hh hb hs
    · exact hn (m.uH n id h' en blk' cap'' cap' (fget n h' hn he) hh hs2 hs)
  · refine ⟨fun q tv hq=>?_,fun q e he=>?_,fun q e he=>?_⟩
    · rw [State.getT_apply0 s wr ht0] at hq;exact hfn.t q tv hq
    · rw [gB] at he;exact hfn.b q e he
    · by_cases hq:q=id
      · rw [hq];exact hfn.h id en hh
      · exact hfn.h q e (fget q e hq he)
  · rw [gB] at he;exact he
  · by_cases hq:n=id
    · rw [hq,hget] at he;cases he;rw [hd] at hd';cases hd'
    · exact fget n e hq he
theorem Tidy.of_sub {fr:List (Nat×Option (HEnt (std E N)))} (h:PreOK s fr) {wr:Wr (std E N)} (hw:wr.hs=fr) (hb:wr.bs=[]) (ht:wr.ts=[]) (new:Nat→Prop):Tidy a new s (s.apply wr) where
 fresh n hf _:=⟨fun k tv hk=>by rw [State.getT_apply0 s wr ht] at hk;exact hf.t k tv hk,fun k e he=>by rw [State.getB_apply0 s wr hb] at he;exact hf.b k e he,fun k e he=>by
  obtain ⟨h0,q1,_⟩:=h.get hw k e he;exact hf.h k h0 q1⟩
 cleanB n e he hd:=by rw [State.getB_apply0 s wr hb] at he;exact he
 cleanH n e he hd:=by
  obtain ⟨h0,q1,q2⟩:=h.get hw n e he
  rcases q2 with rfl | rfl
  ·exact q1
  ·cases hd
theorem Tidy.weaken {new new':Nat→Prop} (t:Tidy a new s s') (h:∀ n,new n→new' n):Tidy a new' s s' :=
 ⟨fun n hf hn=>t.fresh n hf (fun k=>hn (h n k)),t.cleanB,t.cleanH⟩
end
section
variable {E:Env} {N:Nat} {P:Program} {n0:Nz} {nt:Nat} {β:Nat→Option Nat} {σ:Nat→Option (Nat×Nat)} {s s':St0 E N} {a:Act} {w w':World}
theorem bZ (hs : Sim P n0 nt β σ s a w) {e : TypeId} {q : Nat} {v : Value} {en : HEnt (std E N)} (hc : RelC P n0 β σ s w (.mp e q) v) (hh : s.getH q = some en) :
    en.e=e∧∃ n r,v=.map (some r)∧σ q=some (r,0)∧e=Cq P n∧OB w n r en.l∧(∀ x∈en.l,x.length=n+1)∧Old n0 en.nw ⟨r,true⟩:=by
  obtain ⟨⟨hno,_⟩,hk⟩:=hc;obtain ⟨he,r,hsq,hv⟩:=hk en hh
  rcases hs.M.H q en hh with ⟨t,ts,ht,_⟩ | ⟨n,r',a1,a2,a3,a4,a5,a6⟩
  · exact (hno t (by rw [← he];exact ht)).elim
  · rw [hsq] at a3;cases a3;exact ⟨he,n,r,hv,hsq,he.symm.trans a1,a4,a5,a6⟩
theorem dS (hs : Sim P n0 nt β σ s a w) {q n r : Nat} {en : HEnt (std E N)} (hh : s.getH q = some en) (hfz : en.frozen = false) (hno : ∀ t, AH P t ≠ .sl en.e) (hm : en.e = Cq P n) (hsq : σ q = some (r, 0)) (hat : OB w n r en.l) (hold : Old n0 en.nw ⟨r, true⟩)
    {L:Rows} (hL:∀ x∈L,x.length=n+1) {wr:Wr (std E N)} (ht0:wr.ts=[]) (hb:wr.bs=[]) (hws:wr.hs=[(q,some { en with l:=L,dirty:=true })]) :
    Mem P n0 β σ (s.apply wr) (World.withMap w n r L)∧Ext P (fun _=>False) β σ s w β σ (s.apply wr) (World.withMap w n r L)∧Tidy a (fun _=>False) s (s.apply wr):=by
  refine Wn hs.M hh hfz ht0 hb hws rfl hfz rfl (fun ⟨t,ht⟩=>(hno t ht).elim) rfl rfl rfl ?_ ?_ (fun x=>?_)
  · show (w.heap.setIfInBounds r _).size=_;simp
  · intro b hb2;have hne:b≠r:=fun e=>hb2 0 (by rw [e];exact hsq)
    exact (MapKept.heap_set hat).2 b hne
  · exact .inr ⟨n,r,hm,hno,hsq,mZ hat,hL,hold⟩
theorem fE:∀ {cs:List (AC0 E N)} {vs:List Value} {ks:List Int},Qc (O:=std E N) cs=some ks→RelCs P n0 β σ s w cs vs→vs=ks.map (Value.int .i64)
 | [],[],ks,h,_=>by cases h;rfl
 | c::cs,v::vs,ks,h,hr=>by
  unfold Qc at h
  split at h
  ·rename_i h0;cases h0
  ·rename_i i r h0;cases h0
   split at h
   ·rename_i l hl;cases h;have hv:v=.int .i64 i:=hr.1;rw [fE hl hr.2,hv];rfl
   ·cases h
  ·cases h
 | [],_::_,_,_,h=>h.elim
 | _::_,[],_,_,h=>h.elim
theorem Nt {n k:Nat} (h:Cq P n=Cq P k):n=k:=by
 exact Nat.add_left_cancel h
theorem Zu (l:Rows) (ks:List Int) (z:Int):PD (std E N) l ks z=Nm ks.length ks z l:=rfl
theorem Zv (l:Rows) (ks:List Int):S5 (std E N) l ks=FG ks.length ks l:=rfl
theorem eM {kv:Val (std E N)} {v:Value} {ks:List Int} (h:RelVal P n0 β σ s w kv v) (hk:Qc (O:=std E N) kv.cs=some ks) (ha:kv.agg=true):v=DC ks:=by
 obtain ⟨h1,h2⟩:=h;rw [ha] at h2;obtain ⟨cs,rfl⟩:=h2;have:=fE hk h1;unfold DC;congr 1;apply Array.ext';simpa [Value.cells] using this
theorem tY (hs : Sim P n0 nt β σ s a w) {ctx : List (Nat × Bool)} {id : Nat} {o : Oper} {T e : TypeId} {m k v : Operand} (hop : o.op = .mapUpdate T m k v) (hd : o.dst = none)
    {q:Nat} {en:HEnt (std E N)} {kv:Val (std E N)} {ks:List Int} {z:Int} (hc:RelC P n0 β σ s w (.mp e q) (a.eval m)) (hkv:RelVal P n0 β σ s w kv (a.eval k)) (hkc:Qc (O:=std E N) kv.cs=some ks) (hag:kv.agg=true)
    (hx:a.eval v=.int .i64 z) (hh:s.getH q=some en) (hfz:en.frozen=false) (he:e=Cq P ks.length) (hmb:MM P T ks.length=true) :
    ∃ w',(execOp a.eval o).run P w=.ok .skip w'∧Mem P n0 β σ (s.apply { hs:=[(q,some { en with l:=PD (std E N) en.l ks z,dirty:=true })] }) w' ∧
      Ext P (fun _=>False) β σ s w β σ (s.apply { hs:=[(q,some { en with l:=PD (std E N) en.l ks z,dirty:=true })] }) w'∧Tidy a (fun _=>False) s (s.apply { hs:=[(q,some { en with l:=PD (std E N) en.l ks z,dirty:=true })] }):=by
  obtain ⟨he1,n,r,hv,hsq,hm,hat,hr,hold⟩:=bZ hs hc hh;have hn:=Nt (hm.symm.trans he);subst hn;have hk:=eM hkv hkc hag;have hno:∀ t,AH P t≠.sl en.e:=by rw [he1];exact hc.1.1
  rw [Zu];obtain ⟨q1,q2,q3⟩:=dS (a:=a) (wr:={ hs:=[(q,some { en with l:=Nm ks.length ks z en.l,dirty:=true })] }) hs hh hfz hno (he1.trans hm) hsq hat hold (fD rfl hr) rfl rfl rfl;have run:=bF (P:=P) hmb rfl hr z hat;refine ⟨_,?_,q1,q2,q3⟩;simp [execOp,hop,hv,hk,hx,run,Result.andThen]
theorem tE (hs : Sim P n0 nt β σ s a w) {T e : TypeId} {m k : Operand} {q : Nat} {en : HEnt (std E N)} {kv : Val (std E N)} {ks : List Int} (hc : RelC P n0 β σ s w (.mp e q) (a.eval m)) (hkv : RelVal P n0 β σ s w kv (a.eval k)) (hkc : Qc (O := std E N) kv.cs = some ks) (hag : kv.agg = true)
    (hh:s.getH q=some en) (he:e=Cq P ks.length) (hmb:MM P T ks.length=true) :
    (Instr.lookup T (a.eval m) (a.eval k) false).run P w=.ok (.int .i64 (S5 (std E N) en.l ks)) w:=by
  obtain ⟨he1,n,r,hv,hsq,hm,hat,hr,hold⟩:=bZ hs hc hh;have hn:=Nt (hm.symm.trans he);subst hn;rw [eM hkv hkc hag,hv,aU hmb rfl hr hat];rfl
theorem tU (hs : Sim P n0 nt β σ s a w) {o : Oper} {T e : TypeId} {m k : Operand} (hop : o.op = .mapEntry T m k)
    {q:Nat} {en:HEnt (std E N)} {kv:Val (std E N)} {ks:List Int} (hc:RelC P n0 β σ s w (.mp e q) (a.eval m)) (hkv:RelVal P n0 β σ s w kv (a.eval k)) (hkc:Qc (O:=std E N) kv.cs=some ks) (hag:kv.agg=true)
    (hh:s.getH q=some en) (hfz:en.frozen=false) (he:e=Cq P ks.length) (hmb:MM P T ks.length=true) :
    let g:=S5 (std E N) en.l ks
    let wr:Wr (std E N):={ hs:=[(q,some { en with l:=PD (std E N) en.l ks g,dirty:=true })] }
    ∃ w',(execOp a.eval o).run P w=.ok (.value (.tuple #[.int .i64 g,.int .i64 ((std E N).az ks.length en.l ks)])) w'∧Mem P n0 β σ (s.apply wr) w' ∧
      Ext P (fun _=>False) β σ s w β σ (s.apply wr) w'∧Tidy a (fun _=>False) s (s.apply wr):=by
  obtain ⟨he1,n,r,hv,hsq,hm,hat,hr,hold⟩:=bZ hs hc hh;have hn:=Nt (hm.symm.trans he);subst hn;have hk:=eM hkv hkc hag;have hno:∀ t,AH P t≠.sl en.e:=by rw [he1];exact hc.1.1
  intro g wr;have eg:g=FG ks.length ks en.l:=rfl;have run:=dg (P:=P) hmb rfl hr hat;have ew:wr={ hs:=[(q,some { en with l:=Nm ks.length ks (FG ks.length ks en.l) en.l,dirty:=true })] }:=by
    show ({ hs:=[(q,some { en with l:=PD (std E N) en.l ks g,dirty:=true })] }:Wr (std E N))=_;rw [Zu,eg]
  rw [ew,eg];obtain ⟨q1,q2,q3⟩:=dS (a:=a) (wr:={ hs:=[(q,some { en with l:=Nm ks.length ks (FG ks.length ks en.l) en.l,dirty:=true })] }) hs hh hfz hno (he1.trans hm) hsq hat hold (fD rfl hr) rfl rfl rfl;refine ⟨_,?_,q1,q2,q3⟩;simp [execOp,hop,hv,hk,run,Result.andThen]
theorem tf (hs : Sim P n0 nt β σ s a w) {o : Oper} {T e : TypeId} {m st v : Operand} (hop : o.op = .entryStore T m st v)
    {q n:Nat} {en:HEnt (std E N)} {i z:Int} (hc:RelC P n0 β σ s w (.mp e q) (a.eval m)) (hi:a.eval st=.int .i64 i) (hx:a.eval v=.int .i64 z)
    (hh:s.getH q=some en) (hfz:en.frozen=false) (he:e=Cq P n) (hmb:MM P T n=true) (hin:iIn i (en.l.length:Int)=true) :
    let wr:Wr (std E N):={ hs:=[(q,some { en with l:=(std E N).x en.l i n [.int z],dirty:=true })] }
    ∃ w',(execOp a.eval o).run P w=.ok .skip w'∧Mem P n0 β σ (s.apply wr) w' ∧
      Ext P (fun _=>False) β σ s w β σ (s.apply wr) w'∧Tidy a (fun _=>False) s (s.apply wr):=by
  obtain ⟨he1,n',r,hv,hsq,hm,hat,hr,hold⟩:=bZ hs hc hh;have hn:=Nt (hm.symm.trans he);subst hn;have hno:∀ t,AH P t≠.sl en.e:=by rw [he1];exact hc.1.1
  simp only [iIn,decide_eq_true_eq] at hin;obtain ⟨j,rfl⟩:∃ j:Nat,i=j:=⟨i.toNat,by omega⟩;have hj:j<en.l.length:=by omega
  have el:(std E N).x en.l (j:Int) n' [.int z]=en.l.set j (I0 n' z (AK en.l j)):=by
    show en.l.set (j:Int).toNat (A4 (AK en.l (j:Int).toNat) n' [PV.int z])=_;rw [Int.toNat_natCast];rfl
  intro wr;have ew:wr={ hs:=[(q,some { en with l:=en.l.set j (I0 n' z (AK en.l j)),dirty:=true })] }:=by
    show ({ hs:=[(q,some { en with l:=(std E N).x en.l (j:Int) n' [.int z],dirty:=true })] }:Wr (std E N))=_;rw [el]
  have hL:∀ x∈en.l.set j (I0 n' z (AK en.l j)),x.length=n'+1:=fun x hx=>by
    rcases List.mem_or_eq_of_mem_set hx with hx | rfl
    · exact hr x hx
    · rw [kK];refine hr _ ?_;unfold AK;rw [zzl,zzo hj];exact List.getElem_mem hj
  have run:=eV (P:=P) (T:=T) hr hj z hat;rw [ew];obtain ⟨q1,q2,q3⟩:=dS (a:=a) (wr:={ hs:=[(q,some { en with l:=en.l.set j (I0 n' z (AK en.l j)),dirty:=true })] }) hs hh hfz hno (he1.trans hm) hsq hat hold hL rfl rfl rfl;refine ⟨_,?_,q1,q2,q3⟩;simp [execOp,hop,hv,hi,hx,run,Result.andThen]
theorem sC (m : Mem P n0 β σ s w) {id : Nat} (hf : Fresh a s id) {fr : List (Nat × Option (HEnt (std E N)))} (hfr : PreOK s fr) {h : HEnt (std E N)} {wr : Wr (std E N)}
    (ht0:wr.ts=[]) (hb:wr.bs=[]) (hh:wr.hs=fr++[(id,some h)]) (hd:h.dirty=true) (hz:h.frozen=false) {w1:World} (g:Grow w w1) {cap:Nat} {ob:Obj}
    (hrel:Ext P (·=id) β σ s w β (upd σ id (some (w1.heap.size,cap))) (s.apply wr) (w1.alloc ob)→RelH P n0 β (upd σ id (some (w1.heap.size,cap))) (s.apply wr) (w1.alloc ob) id h) :
    Mem P n0 β (upd σ id (some (w1.heap.size,cap))) (s.apply wr) (w1.alloc ob) ∧
      Ext P (·=id) β σ s w β (upd σ id (some (w1.heap.size,cap))) (s.apply wr) (w1.alloc ob)∧Tidy a (·=id) s (s.apply wr) ∧
      (s.apply wr).getH id=some h:=by
  have gB:=fun n=>State.getB_apply0 s wr hb n
  have gs:∀ n,(s.apply wr).getH n=if n=id then some h else (s.apply { hs:=fr }).getH n:=fun n=>by
    unfold State.apply State.getH;simp only [hh,DB,Ay];exact As _ _ _ _
  have old:∀ n e,s.getH n=some e→n≠id:=fun n e he h=>(hf.h n e he h.symm)
  have fget:∀ n h',n≠id→(s.apply wr).getH n=some h'→∃ h0,s.getH n=some h0∧(h'=h0∨h'={ h0 with frozen:=true,dirty:=true }):=fun n h' hn he=>by
    rw [gs,if_neg hn] at he;exact hfr.get rfl n h' he
  have gg:=g.trans (Grow.alloc w1 ob);have x:Ext P (·=id) β σ s w β (upd σ id (some (w1.heap.size,cap))) (s.apply wr) (w1.alloc ob):=by
    refine ⟨gg.os,gg.tape,gg.output,gg.size,fun b hb _=>gg.old b hb,fun b hb=>?_,fun b e he hn=>?_,fun n e he hn=>?_⟩
    · rcases hb with ⟨n,e,he,hb⟩ | ⟨n,e,cap',he,hfz,hb⟩
      · rw [gB] at he;exact .inl (.inl ⟨n,e,he,hb⟩)
      · by_cases hid:n=id
        · rw [hid,Ai] at hb;cases hb;exact .inr g.size
        · obtain ⟨h0,hh0,h1⟩:=fget n e hid he;rw [Ah _ _ hid] at hb
          rcases h1 with rfl | rfl
          · exact .inl (.inr ⟨n,e,cap',hh0,hfz,hb⟩)
          · cases hfz
    · rw [gB] at he;exact ⟨⟨e,he⟩,rfl⟩
    · obtain ⟨h0,hh0,h1⟩:=fget n e hn he;refine ⟨h0,hh0,Ah _ _ hn,?_⟩
      rcases h1 with rfl | rfl<;>exact ⟨rfl,fun _=>rfl⟩
  have hget:(s.apply wr).getH id=some h:=by rw [gs,if_pos rfl]
  refine ⟨Qg (id:=id) m x (fun n e he=>?_) (fun n e blk he hb=>?_) (fun n h' hn he=>?_) (fun n h' blk cap' hn he hs=>?_) (fun h' he=>?_) (fun blk cap' hs=>?_),x,⟨fun n hfn hn=>?_,fun n e he hd'=>?_,fun n e he hd'=>?_⟩,hget⟩
  · rw [gB] at he;exact ⟨e,he,rfl,fun k hk h=>(hf.b n e he).2 (h▸hk)⟩
  · rw [gB] at he;exact gg.old blk (m.ltB he hb)
  · obtain ⟨h0,hh0,h1⟩:=fget n h' hn he;refine ⟨h0,hh0,?_⟩
    rcases h1 with rfl | rfl
    · exact ⟨rfl,rfl,rfl,fun h=>h,Ah _ _ hn⟩
    · exact ⟨rfl,rfl,rfl,(fun h=>by cases h),Ah _ _ hn⟩
  · obtain ⟨h0,hh0,_⟩:=fget n h' hn he;exact gg.old blk (m.ltH hh0 hs)
  · rw [hget] at he;cases he;exact hrel x
  · rw [Ai] at hs;cases hs;refine ⟨fun n e he hb=>?_,fun n h' cap'' hn he hs=>?_⟩
    · rw [gB] at he;have:=m.ltB he hb;have:=g.size;omega
    · obtain ⟨h0,hh0,_⟩:=fget n h' hn he;have:=m.ltH hh0 hs;have:=g.size;omega
  · refine ⟨fun k tv hk=>?_,fun k e he=>?_,fun k e he=>?_⟩
    · rw [State.getT_apply0 s wr ht0] at hk;exact hfn.t k tv hk
    · rw [gB] at he;exact hfn.b k e he
    · by_cases hk:k=id
      · exact fun h=>hn (h.trans hk)
      · obtain ⟨h0,hh0,_⟩:=fget k e hk he;exact hfn.h k h0 hh0
  · rw [gB] at he;exact he
  · by_cases hk:n=id
    · rw [hk,hget] at he;cases he;rw [hd] at hd';cases hd'
    · obtain ⟨h0,hh0,h1⟩:=fget n e hk he
      rcases h1 with rfl | rfl
      · exact hh0
      · cases hd'
theorem vF (hs : Sim P n0 nt β σ s a w) {id : Nat} (hid : Fresh a s id) {o : Oper} {T : TypeId} {n : Nat} (hop : o.op = .makeMap T none) (hno : ∀ t, AH P t ≠ .sl (Cq P n)) :
    let wr:Wr (std E N):={ hs:=[(id,some { e:=Cq P n,frozen:=false,nw:=true,l:=(std E N).y,dirty:=true })] }
    ∃ v σ' w',(execOp a.eval o).run P w=.ok (.value v) w'∧Mem P n0 β σ' (s.apply wr) w'∧Ext P (·=id) β σ s w β σ' (s.apply wr) w'∧Tidy a (·=id) s (s.apply wr)∧RelC P n0 β σ' (s.apply wr) w' (.mp (Cq P n) id) v:=by
  intro wr;have frn:FrOK s ([]:List (Nat×Option (HEnt (std E N)))):=fun n v hm=>by simp at hm
  obtain ⟨q1,q2,q3,q4⟩:=sC (P:=P) (n0:=n0) (a:=a) hs.M hid frn.pre (h:={ e:=Cq P n,frozen:=false,nw:=true,l:=[],dirty:=true }) (wr:=wr) rfl rfl rfl rfl rfl (Grow.refl w) (cap:=0) (ob:=.map #[] 0)
    (fun x=>.inr ⟨n,w.heap.size,rfl,hno,Ai _ _ _,Kf _ _,fun y hy=>absurd hy List.not_mem_nil,Old.new hs.n0le⟩)
  refine ⟨.map (some w.heap.size),_,_,?_,q1,q2,q3,⟨hno,_,rfl⟩,fun h2 hh2=>?_⟩
  · have e:(Instr.makeMap T none).run P w=.ok (.map (some w.heap.size)) (w.alloc (.map #[] 0)):=rfl;simp only [execOp,hop,Option.map_none,Sem.run_bind,e,Result.andThen_ok,Sem.run_pure]
  · have hh3:=q4.symm.trans hh2;cases hh3;exact ⟨rfl,w.heap.size,Ai _ _ _,rfl⟩
end
open Go.Lib
def nQ (w:World) (e:TypeId) (v:Value) (bs:List Value):Prop :=
  (v=.slice none 0 0∧bs=[])∨∃ g cap cur,v=.slice (some ⟨g,0,none⟩) bs.length cap∧w.heap[g]?=some (.cells cur e (0,0))∧0<cap∧bs.length≤cap∧cur.size=cap∧cur.toList.take bs.length=bs
def aG (w:World) (T e:TypeId) (b:Nat) (v:Value) (bs:List Value):Prop :=
  (∃ p,w.heap[b]?=some (.cells #[p,v] T (0,0))∧(p=.pointer none∨p=.pointer (some ⟨b,0,none⟩)))∧nQ w e v bs
structure Rest (w w':World) (b:Nat) (g:Option Nat):Prop where
 os:w'.os=w.os
 tape:w'.tape=w.tape
 output:w'.output=w.output
 size:w.heap.size≤w'.heap.size
 block:∀ k,k<w.heap.size→k≠b→g≠some k→w'.heap[k]?=w.heap[k]?
def sF (w:World) (v v':Value):Prop:=v'.ownBlock=v.ownBlock∨∃ g,v'.ownBlock=some g∧w.heap.size≤g
def eB (w:World) (T e:TypeId) (b:Nat) (v:Value) (bs:List Value) (w':World):Prop :=
 ∃ v',w'.heap[b]?=some (.cells #[.pointer (some ⟨b,0,none⟩),v'] T (0,0))∧nQ w' e v' bs∧Rest w w' b v.ownBlock∧sF w v v'
def vR (w:World) (v:Value) (w':World):Prop :=
 w'.os=w.os∧w'.tape=w.tape∧w'.output=w.output∧w.heap.size≤w'.heap.size∧∀ k,k<w.heap.size→v.ownBlock≠some k→w'.heap[k]?=w.heap[k]?
def Sw (P:Program) (b:Bld):Prop:=match b.k with
 | 0=>∀ n v bs s w,aG w b.T b.u n v bs→bs.length+s.size≤140737488355328→Calls P b.f #[.pointer (some ⟨n,0,none⟩),.string s] w fun e w'=>e=.returned (.tuple #[.int .i64 s.size,.nilIface])∧eB w b.T b.u n v (bs++strCells s) w'
 | 1=>∀ n v bs c w,aG w b.T b.u n v bs→bs.length+1≤140737488355328→Calls P b.f #[.pointer (some ⟨n,0,none⟩),.int .u8 c] w fun e w'=>e=.returned .nilIface∧eB w b.T b.u n v (bs++[.int .u8 c]) w'
 | 2=>∀ n v l w,aG w b.T b.u n v (byteCells l)→l.length≤9223372036854775807→Calls P b.f #[.pointer (some ⟨n,0,none⟩)] w fun e w'=>e=.returned (.string ⟨l.toArray⟩)∧vR w v w'
 | _=>True
structure GamOK (P:Program) (E:Env) (N:Nat) (cfg:Cfg):Prop where
 ci:∀ ci∈cfg.gam,IE P E N ci∧IE P E N { ci with own:=false }
 bld:∀ b∈cfg.bld,Sw P b
section
variable {E:Env} {N:Nat} {P:Program} {n0:Nz} {nt:Nat} {β:Nat→Option Nat} {σ:Nat→Option (Nat×Nat)} {s s':St0 E N} {a:Act} {w w':World}
theorem jT:∀ {l:List Bld} {f:Nat} {b:Bld},cn l f=some b→b∈l∧b.f=f
 | c::l,f,b,h=>by
  simp only [cn] at h
  split at h
  ·rename_i hb;cases h;exact ⟨zzm,AA.1 hb⟩
  ·obtain ⟨h1,h2⟩:=jT h;exact ⟨zzn _ h1,h2⟩
 | [],_,_,h=>by simp [cn] at h
def Gone (s:St0 E N) (g:List (Nat×Option (HEnt (std E N)))):Prop:=g=[]∨∃ q en,g=[(q,none)]∧s.getH q=some en∧en.frozen=false
theorem Gone.get {g : List (Nat × Option (HEnt (std E N)))} (h : Gone s g) {wr : Wr (std E N)} (hw : wr.hs = g) (k : Nat) (h' : HEnt (std E N)) (hk : (s.apply wr).getH k = some h') :
    s.getH k=some h'∧∀ v,(k,v)∉g:=by
  rcases h with rfl | ⟨q,en,rfl,hq,_⟩
  · rw [State.getH_apply0 s wr hw] at hk;exact ⟨hk,fun v=>by simp⟩
  · have : (s.apply wr).getH k = if k = q then none else s.getH k := by
      unfold State.apply State.getH;simp only [hw,Ay];exact As _ _ _ _
    rw [this] at hk
    split at hk
    · cases hk
    · rename_i hne;exact ⟨hk,fun v hm=>hne (by simp at hm;exact hm.1)⟩
theorem Gone.mem {g:List (Nat×Option (HEnt (std E N)))} (h:Gone s g) {q:Nat} {v:Option (HEnt (std E N))} (hm:(q,v)∈g):∃ en,s.getH q=some en∧en.frozen=false:=by
 rcases h with rfl | ⟨q',en,rfl,hq,hf⟩
 ·simp at hm
 ·simp only [List.mem_singleton,Prod.mk.injEq] at hm;obtain ⟨rfl,_⟩:=hm;exact ⟨en,hq,hf⟩
theorem sT (m : Mem P n0 β σ s w) {id n blk : Nat} (hid : Fresh a s id) {e : BEnt (std E N)} (he : s.getB n = some e) (hb : β n = some blk) {cs' : List (AC0 E N)} {g : List (Nat × Option (HEnt (std E N)))} (hg : Gone s g) {h : HEnt (std E N)} (hd : h.dirty = true)
    {sid:Option (Nat×Nat)} (ho:w'.os=w.os) (htp:w'.tape=w.tape) (hout:w'.output=w.output) (hsize:w.heap.size≤w'.heap.size)
    (hblock:∀ k,k<w.heap.size→k≠blk→(∀ q v cap,(q,v)∈g→σ q≠some (k,cap))→w'.heap[k]?=w.heap[k]?)
    (hloc:∀ k cap,sid=some (k,cap)→(∃ q v cap0,(q,v)∈g∧σ q=some (k,cap0))∨w.heap.size≤k)
    {wr:Wr (std E N)} (ht0:wr.ts=[]) (hbs:wr.bs=[(n,some { cs:=cs',dirty:=true })]) (hhs:wr.hs=g++[(id,some h)])
    (hrB:Ext P (·=id) β σ s w β (upd σ id sid) (s.apply wr) w'→(s.apply wr).getH id=some h→ng P n0 β (upd σ id sid) (s.apply wr) w' n { cs:=cs',dirty:=true })
    (hcn:∀ k,Fresh a s k→k≠id→k∉AB cs')
    (hrH:Ext P (·=id) β σ s w β (upd σ id sid) (s.apply wr) w'→RelH P n0 β (upd σ id sid) (s.apply wr) w' id h) :
    Mem P n0 β (upd σ id sid) (s.apply wr) w'∧Ext P (·=id) β σ s w β (upd σ id sid) (s.apply wr) w'∧Tidy a (·=id) s (s.apply wr):=by
  have gB:=fun k=>State.getB_apply1 s n (some { cs:=cs',dirty:=true }) wr hbs k
  have gs:∀ k,(s.apply wr).getH k=if k=id then some h else (s.apply ({ hs:=g }:Wr (std E N))).getH k:=fun k=>by
    unfold State.apply State.getH;simp only [hhs,DB,Ay];exact As _ _ _ _
  have hget:(s.apply wr).getH id=some h:=by rw [gs,if_pos rfl]
  have fget:∀ k h',k≠id→(s.apply wr).getH k=some h'→s.getH k=some h'∧∀ v,(k,v)∉g:=fun k h' hk he=>by
    rw [gs,if_neg hk] at he;exact hg.get rfl k h' he
  have bget:∀ k e',(s.apply wr).getB k=some e'→∃ e0,s.getB k=some e0:=fun k e' h=>by
    rw [gB] at h
    by_cases hk:k=n
    · exact ⟨e,by rw [hk];exact he⟩
    · rw [if_neg hk] at h;exact ⟨e',h⟩
  have x:Ext P (·=id) β σ s w β (upd σ id sid) (s.apply wr) w':=by
    refine ⟨ho,htp,hout,hsize,fun k hk hm=>hblock k hk (fun e1=>hm (.inl ⟨n,e,he,e1▸hb⟩)) (fun q v cap hq hs=>?_),fun k hk=>?_,fun k e' hk hn=>⟨bget k e' hk,rfl⟩,fun k h' hk hn=>?_⟩
    · obtain ⟨en,h1,h2⟩:=hg.mem hq;exact hm (.inr ⟨q,en,cap,h1,h2,hs⟩)
    · rcases hk with ⟨k',e',h1,h2⟩ | ⟨k',h',cap,h1,h2,h3⟩
      · obtain ⟨e0,h0⟩:=bget k' e' h1;exact .inl (.inl ⟨k',e0,h0,h2⟩)
      · by_cases hki:k'=id
        · rw [hki,Ai] at h3
          rcases hloc k cap h3 with ⟨q,v,cap0,hq,hs⟩ | h4
          · obtain ⟨en,h4,h5⟩:=hg.mem hq;exact .inl (.inr ⟨q,en,cap0,h4,h5,hs⟩)
          · exact .inr h4
        · rw [Ah _ _ hki] at h3;exact .inl (.inr ⟨k',h',cap,(fget k' h' hki h1).1,h2,h3⟩)
    · exact ⟨h',(fget k h' hn hk).1,Ah _ _ hn,rfl,fun _=>rfl⟩
  refine ⟨ZK (id:=id) m x (fun k e' hk=>?_) (fun k h' hk hh=>?_) (fun k h' b2 cap hk hh hs=>?_) (fun h' hh=>?_) (fun b2 cap hs=>?_),x,⟨fun k hf hk=>⟨fun j tv hj=>?_,fun j e' hj=>?_,fun j h' hj=>?_⟩,fun k e' hk hdd=>?_,fun k h' hk hdd=>?_⟩⟩
  · rw [gB] at hk
    by_cases hkn:k=n
    · rw [if_pos hkn] at hk;cases hk;exact ⟨e,by rw [hkn];exact he,by rw [hkn];exact hrB x hget⟩
    · rw [if_neg hkn] at hk;obtain ⟨b2,cells,el,q1,q2,q3,q4⟩:=m.B k e' hk;refine ⟨e',hk,b2,cells,el,q1,(hblock b2 (BM q2) (fun e2=>hkn (m.uB k n e' e b2 hk he q1 (e2▸hb))) (fun q v cap hq hs=>?_)).trans q2,x.relCs (fun j hj hji=>(hid.b k e' hk).2 (hji▸hj)) q3,q4⟩;obtain ⟨en,h4,h5⟩:=hg.mem hq;exact m.uX k e' q en b2 cap hk h4 q1 hs
  · exact ⟨h',(fget k h' hk hh).1,rfl,rfl,rfl,fun h=>h,Ah _ _ hk⟩
  · obtain ⟨h1,h2⟩:=fget k h' hk hh;refine hblock b2 (m.ltH h1 hs) (fun e2=>m.uX n e k h' blk cap he h1 hb (e2▸hs)) (fun q v cap' hq hs'=>?_);obtain ⟨en,h4,h5⟩:=hg.mem hq;have:=m.uH k q h' en b2 cap cap' h1 h4 hs hs';exact h2 v (this▸hq)
  · rw [hget] at hh;cases hh;exact hrH x
  · rw [Ai] at hs
    rcases hloc b2 cap hs with ⟨q,v,cap0,hq,hs0⟩ | hnew
    · obtain ⟨en,h4,h5⟩:=hg.mem hq;refine ⟨fun k e' hk hbk=>?_,fun k h' cap' hk hh hs1=>?_⟩
      · obtain ⟨e0,h0⟩:=bget k e' hk;exact m.uX k e0 q en b2 cap0 h0 h4 hbk hs0
      · obtain ⟨h1,h2⟩:=fget k h' hk hh;have:=m.uH k q h' en b2 cap' cap0 h1 h4 hs1 hs0;exact h2 v (this▸hq)
    · refine ⟨fun k e' hk hbk=>?_,fun k h' cap' hk hh hs1=>?_⟩
      · obtain ⟨e0,h0⟩:=bget k e' hk;have:=m.ltB h0 hbk;omega
      · have:=m.ltH (fget k h' hk hh).1 hs1;omega
  · rw [State.getT_apply0 s wr ht0] at hj;exact hf.t j tv hj
  · rw [gB] at hj
    by_cases hjn:j=n
    · rw [if_pos hjn] at hj;cases hj;exact ⟨by rw [hjn];exact (hf.b n e he).1,hcn k hf hk⟩
    · rw [if_neg hjn] at hj;exact hf.b j e' hj
  · by_cases hji:j=id
    · rw [hji];exact hk
    · exact hf.h j h' (fget j h' hji hj).1
  · rw [gB] at hk
    by_cases hkn:k=n
    · rw [if_pos hkn] at hk;cases hk;cases hdd
    · rw [if_neg hkn] at hk;exact hk
  · by_cases hki:k=id
    · rw [hki,hget] at hk;cases hk;rw [hd] at hdd;cases hdd
    · exact (fget k h' hki hk).1
theorem pe (m : Mem P n0 β σ s w) {id : Nat} (hid : Fresh a s id) {g : List (Nat × Option (HEnt (std E N)))} (hg : Gone s g)
    (ho:w'.os=w.os) (htp:w'.tape=w.tape) (hout:w'.output=w.output) (hsize:w.heap.size≤w'.heap.size)
    (hblock:∀ k,k<w.heap.size→(∀ q v cap,(q,v)∈g→σ q≠some (k,cap))→w'.heap[k]?=w.heap[k]?)
    {wr:Wr (std E N)} (ht0:wr.ts=[]) (hbs:wr.bs=[]) (hhs:wr.hs=g) :
    Mem P n0 β (upd σ id none) (s.apply wr) w'∧Ext P (·=id) β σ s w β (upd σ id none) (s.apply wr) w'∧Tidy a (·=id) s (s.apply wr):=by
  have gB:=fun k=>State.getB_apply0 s wr hbs k
  have fget:∀ k h',(s.apply wr).getH k=some h'→s.getH k=some h'∧∀ v,(k,v)∉g:=fun k h' he=>hg.get hhs k h' he
  have hne:∀ k h',(s.apply wr).getH k=some h'→k≠id:=fun k h' he e=>hid.h k h' (fget k h' he).1 e.symm
  have x:Ext P (·=id) β σ s w β (upd σ id none) (s.apply wr) w':=by
    refine ⟨ho,htp,hout,hsize,fun k hk hm=>hblock k hk (fun q v cap hq hs=>?_),fun k hk=>.inl ?_,fun k e' hk hn=>⟨⟨e',by rw [gB] at hk;exact hk⟩,rfl⟩,fun k h' hk hn=>⟨h',(fget k h' hk).1,Ah _ _ hn,rfl,fun _=>rfl⟩⟩
    · obtain ⟨en,h1,h2⟩:=hg.mem hq;exact hm (.inr ⟨q,en,cap,h1,h2,hs⟩)
    · rcases hk with ⟨k',e',h1,h2⟩ | ⟨k',h',cap,h1,h2,h3⟩
      · rw [gB] at h1;exact .inl ⟨k',e',h1,h2⟩
      · rw [Ah _ _ (hne k' h' h1)] at h3;exact .inr ⟨k',h',cap,(fget k' h' h1).1,h2,h3⟩
  refine ⟨ZK (id:=id) m x (fun k e' hk=>?_) (fun k h' hk hh=>?_) (fun k h' b2 cap hk hh hs=>?_) (fun h' hh=>(hne id h' hh rfl).elim) (fun b2 cap hs=>by rw [Ai] at hs;cases hs),x,⟨fun k hf hk=>⟨fun j tv hj=>?_,fun j e' hj=>?_,fun j h' hj=>?_⟩,fun k e' hk hdd=>?_,fun k h' hk hdd=>(fget k h' hk).1⟩⟩
  · rw [gB] at hk;obtain ⟨b2,cells,el,q1,q2,q3,q4⟩:=m.B k e' hk;refine ⟨e',hk,b2,cells,el,q1,(hblock b2 (BM q2) (fun q v cap hq hs=>?_)).trans q2,x.relCs (fun j hj hji=>(hid.b k e' hk).2 (hji▸hj)) q3,q4⟩;obtain ⟨en,h4,h5⟩:=hg.mem hq;exact m.uX k e' q en b2 cap hk h4 q1 hs
  · exact ⟨h',(fget k h' hh).1,rfl,rfl,rfl,fun h=>h,Ah _ _ hk⟩
  · obtain ⟨h1,h2⟩:=fget k h' hh;refine hblock b2 (m.ltH h1 hs) (fun q v cap' hq hs'=>?_);obtain ⟨en,h4,h5⟩:=hg.mem hq;have:=m.uH k q h' en b2 cap cap' h1 h4 hs hs';exact h2 v (this▸hq)
  · rw [State.getT_apply0 s wr ht0] at hj;exact hf.t j tv hj
  · rw [gB] at hj;exact hf.b j e' hj
  · exact hf.h j h' (fget j h' hj).1
  · rw [gB] at hk;exact hk
end
end Go.Px
end
section
namespace Go.Px
open Go.Lib
def Gq (l:Rows):List Value:=l.map fun r=>.int .u8 (pvI (AD r 0))
def XC (l:Rows):List UInt8:=l.map fun r=>(pvI (AD r 0)).toNat.toUInt8
theorem rN (s:ByteArray):Gq (CQ s)=strCells s:=by
 simp [Gq,CQ,strCells,AD,pvI]
theorem kZ (l r:Rows):Gq (l++r)=Gq l++Gq r:=by simp [Gq]
theorem Na (l:Rows):(Gq l).length=l.length:=by simp [Gq]
theorem cz:∀ {l:Rows},VS l=true→Gq l=byteCells (XC l)
 | [],_=>rfl
 | r::l,h=>by
  simp only [VS,List.all_cons,zzk,decide_eq_true_eq] at h;obtain ⟨⟨h1,h2⟩,h3⟩:=h;have ih:=cz (l:=l) h3;obtain ⟨k,hk⟩:∃ k:Nat,pvI (AD r 0)=(k:Int):=⟨(pvI (AD r 0)).toNat,by omega⟩;have e:((pvI (AD r 0)).toNat.toUInt8).toNat=k:=by
   rw [hk];simp;omega
  show Value.int .u8 (pvI (AD r 0))::Gq l=Value.int .u8 (((pvI (AD r 0)).toNat.toUInt8).toNat:Int)::byteCells (XC l);rw [ih,e,hk]
section
variable {E:Env} {N:Nat} {P:Program} {n0:Nz} {nt:Nat} {β:Nat→Option Nat} {σ:Nat→Option (Nat×Nat)} {s s':St0 E N} {a:Act} {w w':World}
theorem jS {u:TypeId} (h:cB P u=true):∃ t,AM P u=some [t]∧AH P t=.int .u8:=by
 unfold cB at h
 split at h
 ·rename_i t h1 h2
  split at h
  ·rename_i h3;exact ⟨t,h2,h3⟩
  ·cases h
 ·cases h
structure BufIs (P:Program) (n0:Nz) (σ:Nat→Option (Nat×Nat)) (s:St0 E N) (w:World) (u:TypeId) (v:Value) (l:Rows) (nw:Bool) (g:List (Nat×Option (HEnt (std E N)))):Prop where
 buf:nQ w u v (Gq l)
 rows:∀ r∈l,∃ i,r=[PV.int i]
 gone:Gone s g
 typ:∃ t,AH P t=.sl u
 blk:∀ k,v.ownBlock=some k→Old n0 nw ⟨k,true⟩∧∃ q x cap,(q,x)∈g∧σ q=some (k,cap)
theorem pk (m : Mem P n0 β σ s w) {u : TypeId} (hu : cB P u = true) {c : AC0 E N} {v : Value} (hc : RelC P n0 β σ s w c v) (hv : v = .slice none 0 0 ∨ ∃ a n c, v = .slice a n c ∧ 0 < c)
    {l:Rows} {nw:Bool} {g:List (Nat×Option (HEnt (std E N)))} {k k':Nat} (h:RM.run s (nO u c) k=.ok ((l,nw,g),k')):BufIs P n0 σ s w u v l nw g:=by
  obtain ⟨t0,ht1,ht2⟩:=jS hu;have nilCase:∀ {a:Option Addr},v=.slice a 0 0→v=.slice none 0 0:=fun {a} e=>by
    rcases hv with hv | ⟨x,n,c,h1,h2⟩
    · exact hv
    · rw [e] at h1;cases h1;omega
  unfold nO at h
  split at h
  · obtain ⟨_,k1,h1,h2⟩:=zza h;cases zzc h2;have:=AA.1 (zzd h1);subst this;obtain ⟨t,ts,q1,q2,ad,q3⟩:=hc;have:=nilCase q3;subst this;exact ⟨.inl ⟨rfl,rfl⟩,fun r hr=>absurd hr List.not_mem_nil,.inl rfl,⟨t,q1⟩,fun k hk=>by cases hk⟩
  · rename_i e q;obtain ⟨k1,h⟩:=zzf h;cases hh:s.getH q with
    | none=>rw [hh] at h;exact (zzb h).elim
    | some en =>
      rw [hh] at h;obtain ⟨_,k2,h1,h2⟩:=zza h;cases zzc h2;have hg:=zzd h1;simp only [zzk,Bool.not_eq_true'] at hg;obtain ⟨hfz,e1,e2⟩:=hg;have e1:=AA.1 e1;have e2:=AA.1 e2;obtain ⟨⟨t,ht,_⟩,hk⟩:=hc;obtain ⟨_,ho⟩:=hk en hh;have hgone:Gone s [(q,none)]:=.inr ⟨q,en,rfl,hh,hfz⟩
      rcases m.H q en hh with ⟨t2,ts,q1,q2,q3,q4⟩ | hM
      case inr=>exact (hM.noSl (t:=t) (by rw [ht,e1,e2])).elim
      rw [e2,ht1] at q2;cases q2
      rcases ho with ⟨blk,cap,hsi,hva⟩ | ⟨hsi,hz,av0,hva⟩
      · rcases q4 with ⟨hn,_⟩ | ⟨blk',cap',cells,el,r1,r2,r3,r4,r5,r6,f,r7,r8⟩
        · rw [hn] at hsi;cases hsi
        · rw [r1] at hsi;obtain ⟨rfl,rfl⟩:blk'=blk∧cap'=cap:=by simpa using hsi
          have hcap:0<cap':=by
            rcases hv with hv | ⟨x,n,c,h3,h4⟩
            · rw [hva] at hv;cases hv
            · rw [hva] at h3;cases h3;exact h4
          have cell:∀ i,i<en.l.length→∃ n,f i 0=.int .u8 n∧en.l[i]?=some [PV.int n]:=fun i hi=>by
            have h6:=r8 i 0 t0 hi rfl;generalize f i 0=z at h6;have hlen:=q3 en.l[i] (List.getElem_mem hi)
            match hr:en.l[i],hlen with
            | [p],_ =>
              have h7:AF en.l i 0=p:=by simp [AF,AK,AD,List.getD,zzo hi,hr]
              rw [h7] at h6;have:∃ n,z=.int .u8 n∧p=.int n:=by
                generalize t0=t1 at h6 ht2;cases h6 with
                | int h=>rw [ht2] at h;cases h;exact ⟨_,rfl,rfl⟩
                | bool h=>rw [ht2] at h;cases h
                | str h=>rw [ht2] at h;cases h
                | sl _ h=>rw [ht2] at h;cases h
              obtain ⟨n,h8,h9⟩:=this;exact ⟨n,h8,by rw [zzo hi,hr,h9]⟩
          refine ⟨.inr ⟨blk',cap',cells,by rw [Na];exact hva,by rw [r2,r3,e2],hcap,by rw [Na];exact r5,by simpa using r4,?_⟩,fun r hr=>?_,hgone,⟨t,by rw [ht,e1]⟩,fun k hk=>?_⟩
          · apply List.ext_getElem?;intro i;rw [List.getElem?_take,Na]
            by_cases hi:i<en.l.length
            · rw [if_pos hi,Array.getElem?_toList];have h5:=r7 i 0 hi (by simp);simp only [List.length_singleton,Nat.mul_one,Nat.add_zero] at h5;obtain ⟨n,h8,h9⟩:=cell i hi;rw [h5,h8];simp only [Gq,List.getElem?_map,h9,Option.map_some];rfl
            · rw [if_neg hi];simp [Gq,Nat.not_lt.1 hi]
          · obtain ⟨i,hi⟩:=List.getElem?_of_mem hr;obtain ⟨n,_,h9⟩:=cell i (List.getElem?_eq_some_iff.1 hi).1;rw [hi] at h9;exact ⟨n,by simpa using h9⟩
          · rw [hva] at hk;cases hk;exact ⟨r6,q,none,_,List.mem_singleton.2 rfl,r1⟩
      · have hl0:en.l=[]:=List.length_eq_zero_iff.1 hz;have:=nilCase hva;subst this;refine ⟨.inl ⟨rfl,by rw [hl0];rfl⟩,fun r hr=>by rw [hl0] at hr;exact absurd hr List.not_mem_nil,hgone,⟨t,by rw [ht,e1]⟩,fun k hk=>by cases hk⟩
  · exact (zzb h).elim
theorem iR (hs : Sim P n0 nt β σ s a w) {b : Bld} {c : AC0 E N} {v : Value} (hc : RelC P n0 β σ s w c v) {n : Nat} {l : Rows} {nw : Bool} {g : List (Nat × Option (HEnt (std E N)))} {k k' : Nat} (h : RM.run s (gZ P b c) k = .ok ((n, l, nw, g), k')) :
    ∃ e blk x,s.getB n=some e∧β n=some blk∧v=.pointer (some ⟨blk,0,none⟩)∧cB P b.u=true∧aG w b.T b.u blk x (Gq l)∧BufIs P n0 σ s w b.u x l nw g:=by
  unfold gZ at h
  split at h
  case h_2=>exact (zzb h).elim
  rename_i n' off;obtain ⟨k1,h⟩:=zzg h;cases he:s.getB n' with
  | none=>rw [he] at h;exact (zzb h).elim
  | some e =>
    rw [he] at h;simp only at h
    split at h
    case h_2=>exact (zzb h).elim
    rename_i T c1 hcs;obtain ⟨_,k2,h1,h2⟩:=zza h;obtain ⟨⟨l2,nw2,g2⟩,k3,h3,h4⟩:=zza h2;cases zzc h4;have hg:=zzd h1;simp only [zzk] at hg;obtain ⟨e1,e2,e3⟩:=hg;have e1:=AA.1 e1;have e2:=AA.1 e2;subst e2;obtain ⟨blk,rfl,hb⟩:=hc;have hb:=hb e he;obtain ⟨blk',cells,el,q1,q2,q3,q4⟩:=hs.M.B n e he;rw [hb] at q1;cases q1;rw [hcs] at q3 q4;obtain ⟨r1,p,x,rfl,r2,r3⟩:=q4;have hx:RelC P n0 β σ s w c1 x:=q3.2.1;have hbuf:=pk hs.M e3 hx r3 h3;exact ⟨e,blk,x,he,hb,rfl,e3,⟨⟨p,by rw [q2,r1,e1],r2⟩,hbuf.buf⟩,hbuf⟩
def iQ (P:Program) (n0:Nz) (β:Nat→Option Nat) (σ:Nat→Option (Nat×Nat)) (s:St0 E N) (a:Act) (w:World) (ctx:List (Nat×Bool)) (o:Oper) (id:Nat) (as:List Bool) (wr:Wr (std E N)):Prop :=
  (∀ b∈as,b=true)→∃ f vals Q,(execOp a.eval o).run P w=.ok (.enter f vals) w∧Calls P f vals w Q∧∀ e w',Q e w'→∃ z β' σ',e=.returned z∧Mem P n0 β' σ' (s.apply { bs:=wr.bs,hs:=wr.hs }) w'∧Ext P (·=id) β σ s w β' σ' (s.apply { bs:=wr.bs,hs:=wr.hs }) w'∧Tidy a (·=id) s (s.apply { bs:=wr.bs,hs:=wr.hs }) ∧
    ∃ d v,o.dst=some d∧wr.ts=[(d,some ⟨ctx,v⟩)]∧RelAV P n0 β' σ' (s.apply { bs:=wr.bs,hs:=wr.hs }) w' v z∧∀ n,Fresh a s n→n≠id→n∉v.names
theorem lj {l:Rows} (h:iSm (l.length:Int) 1=true):l.length≤17592186044416:=by
 simp only [iSm,decide_eq_true_eq] at h;omega
theorem im (hs : Sim P n0 nt β σ s a w) {ctx : List (Nat × Bool)} {id : Nat} (hid : Fresh a s id) {o : Oper} {d : Nat} (hd : o.dst = some d) {b : Bld} {c : AC0 E N} {v : Value} (hc : RelC P n0 β σ s w c v) {new : Rows} {av : AV (std E N)} {r : StepRes (std E N)} {m m' : Nat}
    (h:RM.run s (gP P ctx id d b c new av) m=.ok (some r,m')) (hnew:∀ r∈new,∃ i,r=[.int i]) {z:Value} {xs:List Value} (hnm:av.names=[])
    (hrel:∀ β' σ' (s1:St0 E N) w',RelAV P n0 β' σ' s1 w' av z) (hen:(execOp a.eval o).run P w=.ok (.enter b.f (v::xs).toArray) w)
    (hcall:∀ n x bs,aG w b.T b.u n x bs→bs.length+new.length≤140737488355328→Calls P b.f (Value.pointer (some ⟨n,0,none⟩)::xs).toArray w fun e w'=>e=.returned z∧eB w b.T b.u n x (bs++Gq new) w') :
    ∃ as wr,r=.plain as wr∧iQ P n0 β σ s a w ctx o id as wr:=by
  obtain ⟨⟨n,l,nw,g⟩,m1,h1,h2⟩:=zza h;refine ⟨_,_,(Option.some.inj (zzc h2)).symm,fun has=>?_⟩;obtain ⟨e,blk,x,he,hb,rfl,hbt,hat,hbuf⟩:=iR hs hc h1;have hsm:=lj (l:=l++new) (has _ zzm);have hlen:(Gq l).length+new.length≤140737488355328:=by rw [Na];rw [List.length_append] at hsm;omega
  obtain ⟨t0,ht1,ht2⟩:=jS hbt;refine ⟨_,_,_,hen,hcall blk x (Gq l) hat hlen,fun e2 w' hw=>?_⟩;obtain ⟨rfl,v',hbk',hbuf',hrest,hsame⟩:=hw;rw [← kZ] at hbuf'
  let hn:HEnt (std E N):={ e:=b.u,frozen:=false,nw,l:=l++new,dirty:=true }
  let wr:Wr (std E N):={ bs:=[(n,some { cs:=[.any b.T,.own b.u id],dirty:=true })],hs:=g++[(id,some hn)] }
  have hlt:blk<w.heap.size:=by obtain ⟨⟨p,q,_⟩,_⟩:=hat;exact BM q
  let sid:Option (Nat×Nat):=match v' with | .slice (some ad) _ cap=>some (ad.block,cap) | _=>none
  have hsid:(sid=none∧v'=.slice none 0 0∧l++new=[])∨∃ g' cap cur,sid=some (g',cap)∧v'=.slice (some ⟨g',0,none⟩) (l++new).length cap∧w'.heap[g']?=some (.cells cur b.u (0,0))∧0<cap∧(l++new).length≤cap∧cur.size=cap∧cur.toList.take (l++new).length=Gq (l++new):=by
    rcases hbuf' with ⟨rfl,h0⟩ | ⟨g',cap,cur,rfl,q⟩
    · exact .inl ⟨rfl,rfl,by simpa [Gq] using h0⟩
    · rw [Na] at q;exact .inr ⟨g',cap,cur,rfl,by rw [Na],q⟩
  have hown:∀ g' cap,sid=some (g',cap)→v'.ownBlock=some g':=fun g' cap hh=>by
    rcases hsid with ⟨q,_⟩ | ⟨g2,cap2,cur,q1,q2,_⟩
    · rw [q] at hh;cases hh
    · rw [q1] at hh;cases hh;rw [q2];rfl
  have hloc:∀ k cap,sid=some (k,cap)→(∃ q x' cap0,(q,x')∈g∧σ q=some (k,cap0))∨w.heap.size≤k:=fun k cap hh=>by
    have h3:=hown k cap hh
    rcases hsame with h4 | ⟨g2,h4,h5⟩
    · rw [h3] at h4;exact .inl (hbuf.blk k h4.symm).2
    · rw [h3] at h4;cases h4;exact .inr h5
  have hold:∀ k cap,sid=some (k,cap)→Old n0 nw ⟨k,true⟩:=fun k cap hh=>by
    have h3:=hown k cap hh
    rcases hsame with h4 | ⟨g2,h4,h5⟩
    · rw [h3] at h4;exact (hbuf.blk k h4.symm).1
    · rw [h3] at h4;cases h4;exact Old.new (Nat.le_trans hs.n0le h5)
  have hints:∀ r∈l++new,∃ i,r=[PV.int i]:=fun r hr=>(List.mem_append.1 hr).elim (hbuf.rows r) (hnew r)
  have hrows:∀ r∈l++new,r.length=1:=fun r hr=>by obtain ⟨i,rfl⟩:=hints r hr;rfl
  suffices fin:Mem P n0 β (upd σ id sid) (s.apply wr) w'∧Ext P (·=id) β σ s w β (upd σ id sid) (s.apply wr) w'∧Tidy a (·=id) s (s.apply wr) by
    obtain ⟨q1,q2,q3⟩:=fin;exact ⟨z,β,_,rfl,q1,q2,q3,d,av,hd,rfl,hrel _ _ _ _,fun n _ _=>by rw [hnm];simp⟩
  refine (sT (P:=P) (n0:=n0) (w':=w') (a:=a) hs.M hid he hb hbuf.gone (h:=hn) rfl (sid:=sid) (wr:=wr) hrest.os hrest.tape hrest.output hrest.size
    (fun k hk hkb hq=>hrest.block k hk hkb (fun e3=>by
      obtain ⟨_,q,x',cap,h6,h7⟩:=hbuf.blk k e3;exact hq q x' cap h6 h7)) hloc rfl rfl rfl
    (fun xx hget=>⟨blk,_,b.T,hb,hbk',⟨rfl,⟨?_,fun h2 hh2=>?_⟩,trivial⟩,rfl,_,_,rfl,.inr rfl,?_⟩)
    (fun k _ hk=>by simpa [AB,AC.names] using hk)
    (fun xx=>?_))
  · obtain ⟨t,ht⟩:=hbuf.typ;refine ⟨t,ht,?_⟩
    rcases hsid with ⟨_,q,_⟩ | ⟨g',cap,cur,_,q,_⟩<;>exact ⟨_,_,_,q⟩
  · have hh3:some hn=some h2:=hget.symm.trans hh2;cases hh3;refine ⟨rfl,?_⟩
    rcases hsid with ⟨h3,h4,h5⟩ | ⟨g',cap,cur,h3,h4,_⟩
    · exact .inr ⟨by rw [Ai];exact h3,by show (l++new).length=0;rw [h5];rfl,none,h4⟩
    · exact .inl ⟨g',cap,by rw [Ai];exact h3,h4⟩
  · rcases hsid with ⟨_,h4,_⟩ | ⟨g',cap,cur,_,h4,_,h5,_⟩
    · exact .inl h4
    · exact .inr ⟨_,_,_,h4,h5⟩
  · obtain ⟨t,ht⟩:=hbuf.typ;refine .inl ⟨t,[t0],ht,ht1,hrows,?_⟩
    rcases hsid with ⟨h3,h4,h5⟩ | ⟨g',cap,cur,h3,h4,h5,h6,h7,h8,h9⟩
    · exact .inl ⟨by rw [Ai];exact h3,h5⟩
    · refine .inr ⟨g',cap,cur,b.u,by rw [Ai];exact h3,h5,rfl,by simpa using h8,h7,hold g' cap h3,fun i _=>.int .u8 (pvI (AF (l++new) i 0)),fun i j hi hj=>?_,fun i j t' hi hj=>?_⟩
      · have hi:i<(l++new).length:=hi;have hj0:j=0:=by simp at hj;exact hj
        subst hj0;have h10:(cur.toList.take (l++new).length)[i]?=some (.int .u8 (pvI (AF (l++new) i 0))):=by
          rw [h9];simp only [Gq,List.getElem?_map,zzo hi,Option.map_some];simp [AF,AK,List.getD,zzo hi]
        rw [List.getElem?_take,if_pos hi,Array.getElem?_toList] at h10;simpa using h10
      · have hi:i<(l++new).length:=hi;have hj0:j=0:=by have:=(List.getElem?_eq_some_iff.1 hj).1;simp at this;exact this
        subst hj0;simp at hj;subst hj;show Rep P w' _ t0 (.int .u8 (pvI (AF (l++new) i 0))) (AF (l++new) i 0);have:∃ k,AF (l++new) i 0=.int k:=by
          obtain ⟨k,hk⟩:=hints _ (List.getElem_mem hi);exact ⟨k,by simp [AF,AK,List.getD,zzo hi,hk,AD]⟩
        obtain ⟨k,hk⟩:=this;rw [hk];exact .int ht2
theorem rK (hs : Sim P n0 nt β σ s a w) {ctx : List (Nat × Bool)} (hf : Facts a ctx) {id : Nat} (hid : Fresh a s id) {o : Oper} {b : Bld} (hB : Sw P b) {x : Operand} {rs : List Operand} {args : Array Operand} {tys : Array TypeId} (hargs : args.toList = x :: rs)
    (hop:o.op=.call ⟨.value (.func b.f),args,tys⟩) {c:AC0 E N} (hc:RelC P n0 β σ s w c (a.eval x)) {r:StepRes (std E N)} {m m':Nat} (h:RM.run s (gV P ctx id o.dst b c rs) m=.ok (some r,m')) :
    ∃ as wr,r=.plain as wr∧iQ P n0 β σ s a w ctx o id as wr:=by
  unfold gV at h;cases hfn:P.funcs[b.f]? with
  | none=>rw [hfn] at h;exact (zzb h).elim
  | some fn =>
    rw [hfn] at h;obtain ⟨_,m1,h1,h2⟩:=zza h;have hg:=zzd h1;simp only [zzk,Bool.not_eq_true'] at hg;obtain ⟨q4,q5⟩:=hg;have hev:a.eval (.func b.f)=.func (.func b.f) #[] #[]:=rfl;have hnb:fn.body.isNone=false:=by cases hb:fn.body<;>simp_all
    have hex:(execOp a.eval o).run P w=.ok (.enter b.f (a.eval x::rs.map a.eval).toArray) w:=by
      have harr:args.map a.eval=(a.eval x::rs.map a.eval).toArray:=by apply Array.ext';simp [hargs]
      simp only [beq_eq_false_iff_ne,ne_eq] at q5;rw [← harr];simp [execOp,hop,resolve,Deferred.ofValue,hev,invoke,callFunc,hfn,q5,hnb];intro hbn;rw [hbn] at q4;cases q4
    split at h2
    · rename_i y d hk hd;obtain ⟨cy,m2,h3,h4⟩:=zza h2;have hy:=(Ba hs hf h3).1
      split at h4
      case h_2=>exact (zzb h4).elim
      rename_i str;have hy:a.eval y=.string str:=hy;rw [List.map_singleton,hy] at hex;unfold Sw at hB;rw [hk] at hB;refine im hs hid hd hc h4 (fun r hr=>?_) (z:=.tuple #[.int .i64 str.size,.nilIface]) rfl (fun β' σ' s1 w'=>⟨_,rfl,⟨⟨rfl,trivial⟩,rfl⟩,⟨⟨rfl,trivial⟩,rfl⟩,trivial⟩) hex (fun n v bs hat hl=>?_)
      · obtain ⟨u,_,rfl⟩:=List.mem_map.1 hr;exact ⟨_,rfl⟩
      · rw [rN];exact hB n v bs str w hat (by
          have e:(CQ str).length=str.size:=by simp [CQ]
          have hl:bs.length+(CQ str).length≤140737488355328:=hl;omega)
    · rename_i y d hk hd;obtain ⟨cy,m2,h3,h4⟩:=zza h2;have hy:=(Ba hs hf h3).1
      split at h4
      case h_2=>exact (zzb h4).elim
      rename_i i;have hy:a.eval y=.int .u8 i:=hy;rw [List.map_singleton,hy] at hex;unfold Sw at hB;rw [hk] at hB;refine im hs hid hd hc h4 (fun r hr=>?_) (z:=.nilIface) rfl (fun β' σ' s1 w'=>⟨⟨rfl,trivial⟩,rfl⟩) hex (fun n v bs hat hl=>?_)
      · have hr:r∈[[Leaf.pv (.int i)]]:=hr;simp at hr;exact ⟨i,hr⟩
      · exact hB n v bs i w hat hl
    · rename_i d hk hd;obtain ⟨⟨n,l,nw,g⟩,m2,h3,h4⟩:=zza h2;refine ⟨_,_,(Option.some.inj (zzc h4)).symm,fun has=>?_⟩;obtain ⟨e,blk,v,he,hb,hx,hbt,hat,hbuf⟩:=iR hs hc h3;have hsm:=lj (l:=l) (has _ zzm);have hby:VS l=true:=has _ (zzn _ zzm);rw [List.map_nil,hx] at hex;rw [cz hby] at hat;unfold Sw at hB;rw [hk] at hB;refine ⟨_,_,_,hex,hB blk v (XC l) w hat (by
        have e:(XC l).length=l.length:=by simp [XC]
        omega),fun e2 w' hw=>?_⟩
      obtain ⟨rfl,r1,r2,r3,r4,r5⟩:=hw;obtain ⟨q1,q2,q3⟩:=pe (P:=P) (n0:=n0) (w':=w') (a:=a) hs.M hid hbuf.gone r1 r2 r3 r4 (fun k hk hq=>r5 k hk (fun e3=>by
        obtain ⟨_,q,x',cap,h6,h7⟩:=hbuf.blk k e3;exact hq q x' cap h6 h7)) (wr:={ hs:=g }) rfl rfl rfl
      exact ⟨_,β,_,rfl,q1,q2,q3,d,_,hd,rfl,⟨⟨rfl,trivial⟩,rfl⟩,fun n _ _=>by simp [AV.names,one,AB,AC.names]⟩
    · exact (zzb h2).elim
end
end Go.Px
end
