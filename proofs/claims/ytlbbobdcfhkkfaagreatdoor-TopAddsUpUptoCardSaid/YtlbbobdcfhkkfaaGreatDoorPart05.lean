/- Part 5. -/
import Derived.Test.YtlbbobdcfhkkfaaGreatDoorPart04
import Derived.Lib.UnsafeStr
set_option linter.unusedVariables false
set_option linter.unusedSimpArgs false
section
namespace Go.Px
section
variable {E:Env} {N:Nat} {P:Program} {n0 n0':Nz} {nt:Nat} {β β':Nat→Option Nat} {σ σ':Nat→Option (Nat×Nat)} {s s':St0 E N} {a:Act} {w w':World}
def Row:Nat→List (Nat×HEnt (std E N))→Prop
 | _,[]=>True
 | q,(k,h)::r=>k=q∧Row (q+1) r
theorem Row.append:∀ {q:Nat} {r r':List (Nat×HEnt (std E N))},Row q r→Row (q+r.length) r'→Row q (r++r')
 | _,[],_,_,h=>by simpa using h
 | q,(k,h')::r,_,h,h2=>⟨h.1,Row.append h.2 (by simpa [Nat.add_assoc,Nat.add_comm 1] using h2)⟩
theorem Row.mem:∀ {q:Nat} {r:List (Nat×HEnt (std E N))},Row q r→∀ p∈r,q≤p.1∧p.1<q+r.length
 | q,(k,h')::r,h,p,hp=>by
  rcases List.mem_cons.1 hp with rfl | hp
  ·have:=h.1;subst this;simp
  ·have:=Row.mem h.2 p hp;simp;omega
theorem Row.get:∀ {q:Nat} {r:List (Nat×HEnt (std E N))},Row q r→∀ {n:Nat} {h:HEnt (std E N)},AM r n=some h→(n,h)∈r
 | q,(k,h')::r,hr,n,h,hg=>by
  simp only [AM] at hg
  split at hg
  ·rename_i e;have:=AE.1 e;subst this;cases hg;exact zzl
  ·exact zzm _ (Row.get hr.2 hg)
theorem Row.has:∀ {q:Nat} {r:List (Nat×HEnt (std E N))},Row q r→∀ {n:Nat} {h:HEnt (std E N)},(n,h)∈r→AM r n=some h
 | q,(k,h')::r,hr,n,h,hg=>by
  simp only [AM]
  rcases List.mem_cons.1 hg with e | hg
  ·cases e;rw [AE.2 rfl]
  ·have h1:=Row.mem hr.2 _ hg;have h2:=hr.1;have:Nat.beq k n=false:=by
    cases hb:Nat.beq k n with
    | false=>rfl
    | true=>have:=AE.1 hb;simp at h1;omega
   rw [this];exact Row.has hr.2 hg
theorem Row.at:∀ {q:Nat} {r:List (Nat×HEnt (std E N))},Row q r→∀ {n:Nat},q≤n→n<q+r.length→∃ h,(n,h)∈r
 | q,[],_,n,h1,h2=>by simp at h2;omega
 | q,(k,h')::r,hr,n,h1,h2=>by
  by_cases h:n=q
  ·exact ⟨h',by rw [h,← hr.1];exact zzl⟩
  ·obtain ⟨h3,h4⟩:=Row.at hr.2 (n:=n) (by omega) (by simp at h2;omega);exact ⟨h3,zzm _ h4⟩
theorem Ents.row:∀ {q:Nat} {os:List (Option Nat)} {r:List (Nat×HEnt (std E N))},Ents P s q os r→Row q r
 | _,[],[],_=>trivial
 | _,_::_,(_,_)::_,h=>⟨h.1,Ents.row h.2.2.2⟩
 | _,[],_::_,h=>h.elim
 | _,_::_,[],h=>h.elim
theorem Ents.find:∀ {q:Nat} {os:List (Option Nat)} {r:List (Nat×HEnt (std E N))},Ents P s q os r→∀ {n:Nat} {h:HEnt (std E N)},(n,h)∈r→∃ i o,n=q+i∧os[i]?=some o∧sI P s h o∧h.frozen=false
 | q,o::os,(k,h')::r,he,n,h,hm=>by
  rcases List.mem_cons.1 hm with e | hm
  ·cases e;exact ⟨0,o,he.1,rfl,he.2.2.1,he.2.1⟩
  ·obtain ⟨i,o',h1,h2,h3⟩:=Ents.find he.2.2.2 hm;exact ⟨i+1,o',by omega,h2,h3⟩
 | _,[],_::_,h,_,_,_=>h.elim
theorem YJ {σc : Nat → Option (Nat × Nat)} {s0 : St0 E N} : ∀ {q : Nat} {os : List (Option Nat)} {r : List (Nat × HEnt (std E N))},
    (∀ i o p,os[i]?=some o→r[i]?=some p→σc (q+i)=o.bind σ∧s0.getH (q+i)=some p.2)→Wired σ σc s0 q os r
  | q, o :: os, (k, h') :: r, h => ⟨(h 0 o _ rfl rfl).1, (h 0 o _ rfl rfl).2, YJ (fun i o' p h1 h2 => by
      have:=h (i+1) o' p (by simpa using h1) (by simpa using h2);rw [show q+1+i=q+(i+1) by omega];exact this)⟩
  | _,[],_,_=>by unfold Wired;trivial
  | _,_::_,[],_=>by unfold Wired;trivial
theorem Row.idx:∀ {q:Nat} {r:List (Nat×HEnt (std E N))},Row q r→∀ {i:Nat} {p:Nat×HEnt (std E N)},r[i]?=some p→p.1=q+i
 | q,(k,h')::r,hr,0,p,h=>by simp at h;subst h;exact hr.1
 | q,(k,h')::r,hr,i+1,p,h=>by have:=Row.idx hr.2 (i:=i) (by simpa using h);omega
theorem VP:∀ {os:List (Option Nat)} {i j x:Nat},(os.filterMap id).Nodup→os[i]?=some (some x)→os[j]?=some (some x)→i=j
 | o::os,i,j,x,hn,hi,hj=>by
  have mem:∀ {k:Nat},os[k]?=some (some x)→x∈os.filterMap id:=fun {k} h=>by
   simp only [List.mem_filterMap];exact ⟨some x,List.mem_of_getElem? h,rfl⟩
  cases o with
  | none =>
   have hn':(os.filterMap id).Nodup:=by simpa using hn
   cases i with
   | zero=>simp at hi
   | succ i=>cases j with
    | zero=>simp at hj
    | succ j=>rw [VP hn' (i:=i) (j:=j) (by simpa using hi) (by simpa using hj)]
  | some y =>
   have hn':(y::os.filterMap id).Nodup:=by simpa using hn
   obtain ⟨h1,h2⟩:=List.nodup_cons.1 hn';cases i with
   | zero=>cases j with
    | zero=>rfl
    | succ j=>simp at hi hj;subst hi;exact (h1 (mem hj)).elim
   | succ i=>cases j with
    | zero=>simp at hi hj;subst hj;exact (h1 (mem hi)).elim
    | succ j=>rw [VP h2 (i:=i) (j:=j) (by simpa using hi) (by simpa using hj)]
def OkC (q len:Nat) (nw:Bool):AC0 E N→Prop
 | .int _ _ | .bool _ | .str _=>True
 | .imm _ n _ | .opq n _=>n=nw
 | .own _ k=>q≤k∧k<q+len
 | _=>False
theorem OkC.wide {q len q' len':Nat} {nw:Bool} {c:AC0 E N} (h:OkC q len nw c) (h1:q'≤q) (h2:q+len≤q'+len'):OkC q' len' nw c:=by
 cases c<;>first | exact h | (obtain ⟨a,b⟩:=h;exact ⟨by omega,by omega⟩)
def OkH (nw:Bool) (hs:List (Nat×HEnt (std E N))):Prop:=∀ p∈hs,p.2.nw=nw∧p.2.frozen=false∧p.2.dirty=true
theorem Ra {own : Nat → Bool} {nw : Bool} {c : List PV} : ∀ {ts : List TypeId} {j q : Nat} {cs : List (AC0 E N)} {hs : List (Nat × HEnt (std E N))}, A0 (O := std E N) P own nw c j q ts = some (cs, hs) →
    Row q hs∧OkH nw hs∧∀ x∈cs,OkC q hs.length nw x
  | [],j,q,cs,hs,h=>by
    simp only [A0] at h;cases h;exact ⟨trivial,fun p hp=>by simp at hp,fun x hx=>by simp at hx⟩
  | t::ts,j,q,cs,hs,h=>by
    have plain:∀ (x:AC0 E N),(∀ len,OkC q len nw x)→(A0 (O:=std E N) P own nw c (j+1) q ts).map (fun p=>(x::p.1,p.2))=some (cs,hs)→Row q hs∧OkH nw hs∧∀ x∈cs,OkC q hs.length nw x:=fun x hx h=>by
      obtain ⟨⟨r,hh⟩,h1,h2⟩:=zzo.1 h;cases h2;obtain ⟨a1,a2,a3⟩:=Ra h1;exact ⟨a1,a2,fun y hy=>(List.mem_cons.1 hy).elim (fun e=>e▸hx _) (a3 y)⟩
    simp only [A0] at h
    split at h
    · exact plain (.int _ _) (fun _=>trivial) h
    · exact plain (.bool _) (fun _=>trivial) h
    · exact plain (.str _) (fun _=>trivial) h
    · split at h
      · obtain ⟨⟨r,hh⟩,h1,h2⟩:=zzo.1 h;cases h2;obtain ⟨a1,a2,a3⟩:=Ra h1;refine ⟨⟨rfl,a1⟩,fun p hp=>?_,fun y hy=>?_⟩
        · rcases List.mem_cons.1 hp with rfl | hp
          · exact ⟨rfl,rfl,rfl⟩
          · exact a2 p hp
        · rcases List.mem_cons.1 hy with rfl | hy
          · exact ⟨Nat.le_refl _,by simp⟩
          · exact (a3 y hy).wide (by omega) (by simp;omega)
      · exact plain (.imm _ nw _) (fun _=>rfl) h
    · exact plain (.opq nw _) (fun _=>rfl) h
    · cases h
theorem TN {own : Nat → Bool} {nw : Bool} {c : List PV} : ∀ {ts : List TypeId} {j q : Nat} {vs : List (Val (std E N))} {hs : List (Nat × HEnt (std E N))}, Bz (O := std E N) P own nw c j q ts = some (vs, hs) →
    Row q hs∧OkH nw hs∧∀ v∈vs,∀ x∈v.cs,OkC q hs.length nw x
  | [],j,q,vs,hs,h=>by
    simp only [Bz] at h;cases h;exact ⟨trivial,fun p hp=>by simp at hp,fun x hx=>by simp at hx⟩
  | t::ts,j,q,vs,hs,h=>by
    simp only [Bz] at h
    split at h
    · cases h
    · split at h
      · cases h
      · rename_i cs h1 hc
        split at h
        · cases h
        · rename_i vs2 h2 hv;cases h;obtain ⟨a1,a2,a3⟩:=Ra hc;obtain ⟨b1,b2,b3⟩:=TN hv;refine ⟨a1.append b1,fun p hp=>(List.mem_append.1 hp).elim (a2 p) (b2 p),fun v hv x hx=>?_⟩
          rcases List.mem_cons.1 hv with rfl | hv
          · exact (a3 x hx).wide (Nat.le_refl _) (by simp)
          · exact (b3 v hv x hx).wide (by omega) (by simp;omega)
theorem cJ {u:List Nat}:∀ {fr:List (Nat×Option (HEnt (std E N)))},gq u fr=true→∀ x∈fr,x.1∉u
 | [],_,x,hx=>by simp at hx
 | (n,v)::r,h,x,hx=>by
  simp only [gq,zzj,Bool.not_eq_true'] at h
  rcases List.mem_cons.1 hx with rfl | hx
  ·intro hm;have:=DL.2 hm;rw [this] at h;cases h.1
  ·exact cJ h.2 x hx
end
section
variable {E:Env} {N:Nat} {P:Program} {n0 n0':Nz} {nt:Nat} {β β':Nat→Option Nat} {σ σ':Nat→Option (Nat×Nat)} {s s':St0 E N} {a:Act} {w w':World}
theorem RelC.moved {n0c : Nz} {σ1 : Nat → Option (Nat × Nat)} {s1 s2 : St0 E N} {q len : Nat} {nw : Bool} {c : AC0 E N} {v : Value} (hc : OkC q len nw c) (h : RelC P n0c noB σ1 s1 w c v)
    (hσ:∀ n,q≤n→n<q+len→σ' n=σ1 n∧s2.getH n=s1.getH n) (hst:∀ b,StB n0c noB σ1 s1 nw b→StB n0 β σ' s2 nw b):RelC P n0 β σ' s2 w c v:=by
  cases c with
  | int k i=>exact h
  | bool b=>exact h
  | str x=>exact h
  | imm e n l =>
    have:n=nw:=hc;subst this;obtain ⟨t,ht,hr⟩:=h;exact ⟨t,ht,hr.st hst⟩
  | own e id =>
    obtain ⟨h1,h2⟩:=h;obtain ⟨e1,e2⟩:=hσ id hc.1 hc.2;refine ⟨h1,fun h3 hh3=>?_⟩;rw [e2] at hh3;obtain ⟨a1,a2⟩:=h2 h3 hh3;refine ⟨a1,?_⟩;unfold mg at a2 ⊢;rw [e1];exact a2
  | opq n l =>
    have:n=nw:=hc;subst this;obtain ⟨t,ht,hr⟩:=h;exact ⟨t,ht,hr.st hst⟩
  | _=>exact hc.elim
theorem RelCs.moved {n0c : Nz} {σ1 : Nat → Option (Nat × Nat)} {s1 s2 : St0 E N} {q len : Nat} {nw : Bool} (hσ : ∀ n, q ≤ n → n < q + len → σ' n = σ1 n ∧ s2.getH n = s1.getH n) (hst : ∀ b, StB n0c noB σ1 s1 nw b → StB n0 β σ' s2 nw b) :
    ∀ {cs:List (AC0 E N)} {vs:List Value},(∀ x∈cs,OkC q len nw x)→RelCs P n0c noB σ1 s1 w cs vs→RelCs P n0 β σ' s2 w cs vs
  | [],[],_,h=>h
  | c::cs,v::vs,hc,h=>⟨RelC.moved (hc c zzl) h.1 hσ hst,RelCs.moved hσ hst (fun x hx=>hc x (zzm _ hx)) h.2⟩
  | [],_::_,_,h=>h.elim
  | _::_,[],_,h=>h.elim
theorem RelVals.moved {n0c : Nz} {σ1 : Nat → Option (Nat × Nat)} {s1 s2 : St0 E N} {q len : Nat} {nw : Bool} (hσ : ∀ n, q ≤ n → n < q + len → σ' n = σ1 n ∧ s2.getH n = s1.getH n) (hst : ∀ b, StB n0c noB σ1 s1 nw b → StB n0 β σ' s2 nw b) :
    ∀ {cs:List (Val (std E N))} {vs:List Value},(∀ v∈cs,∀ x∈v.cs,OkC q len nw x)→RelVals P n0c noB σ1 s1 w cs vs→RelVals P n0 β σ' s2 w cs vs
  | [],[],_,h=>h
  | c::cs,v::vs,hc,h=>⟨⟨RelCs.moved hσ hst (hc c zzl) h.1.1,h.1.2⟩,RelVals.moved hσ hst (fun x hx=>hc x (zzm _ hx)) h.2⟩
  | [],_::_,_,h=>h.elim
  | _::_,[],_,h=>h.elim
theorem RelAV.moved {n0c : Nz} {σ1 : Nat → Option (Nat × Nat)} {s1 s2 : St0 E N} {q len : Nat} {nw : Bool} (hσ : ∀ n, q ≤ n → n < q + len → σ' n = σ1 n ∧ s2.getH n = s1.getH n) (hst : ∀ b, StB n0c noB σ1 s1 nw b → StB n0 β σ' s2 nw b)
    {vs:List (Val (std E N))} {v:Value} (hc:∀ v∈vs,∀ x∈v.cs,OkC q len nw x) (h:RelAV P n0c noB σ1 s1 w (Kt vs) v):RelAV P n0 β σ' s2 w (Kt vs) v:=by
  match vs,hc,h with
  | [x],hc,h=>exact ⟨RelCs.moved hσ hst (hc x zzl) h.1,h.2⟩
  | [],hc,h=>obtain ⟨us,hv,hr⟩:=h;exact ⟨us,hv,RelVals.moved hσ hst hc hr⟩
  | x::y::r,hc,h=>obtain ⟨us,hv,hr⟩:=h;exact ⟨us,hv,RelVals.moved hσ hst hc hr⟩
def wN (a:Act) (P:Program) (n0:Nz) (β:Nat→Option Nat) (σ:Nat→Option (Nat×Nat)) (s:St0 E N) (w:World) (new:Nat→Prop) (wr:Wr (std E N)) (vs:List (Val (std E N))):Ending→World→Prop
 | .returned v,w'=>∃ σ',Mem P n0 β σ' (s.apply wr) w'∧Ext P n0 new β σ s w β σ' (s.apply wr) w'∧Tidy a new s (s.apply wr)∧RelAV P n0 β σ' (s.apply wr) w' (Kt vs) v
 | _,_=>False
theorem oE {b:Blk} (h:b.c=true) {Q:Blk→Prop} (q:Q ⟨b.b,true⟩):Q b:=by
 obtain ⟨b,c⟩:=b;cases h;exact q
theorem zL (hn0 : n0.n ≤ w.heap.size) (m : Mem P n0 β σ s w) (hkp : Kept P n0 β σ s w) {ci : CI} (hv : KB P E N ci) {fn : Func} (hfn : P.funcs[ci.f]? = some fn) {args : List (AV (std E N))} {vals : List Value} {ls : List AU} {fr : List (Nat × Option (HEnt (std E N)))} {u : List Nat} {k k' : Nat}
    (hr:RelArgs P n0 β σ s w args vals) (ha:IJ P fn.params.toList args=true) (hf:Je args=some ci.fns) (hnc:(ci.nw||TI args)=true) (hl:RM.run s (Mk (O:=std E N) P ci.gives [] args) k=.ok ((ls,fr,u),k')) (hgiv:bG ci.gives u fr=true)
    {rs:List PV} (he:E ci.f ci.fns (ls.map Leaf.pv)=some rs) {id:Nat} {vs:List (Val (std E N))} {nh:List (Nat×HEnt (std E N))} (hb:Bz (O:=std E N) P ci.ow ci.nw rs 0 id fn.resultTypes.toList=some (vs,nh))
    (hid:∀ n,id≤n→n<id+nh.length→Fresh a s n) {wr:Wr (std E N)} (ht0:wr.ts=[]) (hwb:wr.bs=[])
    (hwr:wr.hs=(match ci.nw with | true=>[] | false=>fr)++(u.map (fun n=>(n,none))++nh.map fun (n,h)=>(n,some h))) :
    Calls P ci.f vals.toArray w (wN a P n0 β σ s w (fun n=>id≤n∧n<id+nh.length) wr vs):=by
  obtain ⟨frOK,vs0,nhc,ids,a1,a2,a3,a4,a5,a6,a7,a8⟩:=U9 m hr ha hf hl 1;have hgv:=hgiv;unfold bG at hgv;rw [zzj] at hgv;have hfru:=cJ hgv.1
  let sk:=s.apply ({ hs:=fr }:Wr (std E N))
  have subk:Sub s sk:=frOK.sub rfl rfl
  let U:Blk→Prop:=fun b=>(¬ InM β σ sk b.b∧Old n0 false b)∨(b.c=true∧∃ i cap h,i∈u∧s.getH i=some h∧h.frozen=false∧σ i=some (b.b,cap))∨(ci.nw=true∧∃ n e,s.getB n=some e∧β n=some b.b)
  let n0c:Nz:=⟨w.heap.size,U⟩
  let σc:Nat→Option (Nat×Nat):=fun n=>match ids[n - 1]? with
    | some (some i)=>σ i
    | _=>none
  have rowc:=a2.row;have gH0:∀ n,(AY nhc).getH n=AM nhc n:=fun n=>rfl
  have gB0:∀ n,(AY nhc).getB n=none:=fun n=>rfl
  have find:∀ n h,(AY nhc).getH n=some h→∃ i o,n=1+i∧ids[i]?=some o∧sI P s h o∧h.frozen=false∧σc n=o.bind σ:=fun n h hh=>by
    obtain ⟨i,o,h1,h2,h3,h4⟩:=a2.find (rowc.get hh);refine ⟨i,o,h1,h2,h3,h4,?_⟩;have:n - 1=i:=by omega
    simp only [σc,this,h2];cases o<;>rfl
  have inM0:∀ b,InM noB σc (AY nhc) b→∃ i cap h,i∈u∧s.getH i=some h∧h.frozen=false∧σ i=some (b,cap):=fun b hb=>by
    rcases hb with ⟨n,e,h1,h2⟩ | ⟨n,h,cap,h1,h2,h3⟩
    · rw [gB0] at h1;cases h1
    · obtain ⟨i,o,e1,e2,e3,e4,e5⟩:=find n h h1;rw [e5] at h3;cases o with
      | none=>cases h3
      | some x =>
        obtain ⟨h0,q1,q2,q3,q4,q5⟩:=e3;exact ⟨x,cap,h0,(a5 x (List.mem_of_getElem? e2)).1,q1,q4,h3⟩
  have inMs:∀ b,InM noB σc (AY nhc) b→InM β σ s b:=fun b hb=>by
    obtain ⟨i,cap,h,_,h1,h2,h3⟩:=inM0 b hb;exact .inr ⟨i,h,cap,h1,h2,h3⟩
  have inMk:∀ b,InM noB σc (AY nhc) b→InM β σ sk b:=fun b hb=>by
    obtain ⟨i,cap,h,h0,h1,h2,h3⟩:=inM0 b hb;refine .inr ⟨i,h,cap,?_,h2,h3⟩;show AM (BK s.hp fr) i=some h;rw [EZ (fun hm=>by
      obtain ⟨x,hx,e⟩:=List.mem_map.1 hm;exact hfru x hx (e▸h0))]
    exact h1
  have stc:∀ nw b,StB n0 β σ s nw b→b.b<w.heap.size→StB n0c noB σc (AY nhc) false b:=fun nw b hb hlt =>
    ⟨fun hm=>hb.1 (inMs _ hm),⟨fun e=>(by cases e),.inr ⟨hlt,.inl ⟨fun hm=>hb.1 (subk.inM hm),hb.2.mono (fun e=>(by cases e))⟩⟩⟩⟩
  have m0:Mem P n0c noB σc (AY nhc) w:=by
    refine ⟨fun b e h=>(by rw [gB0] at h;cases h),fun n h hh=>?_,fun b b' e e' blk h=>(by rw [gB0] at h;cases h),fun n n' h h' blk cap cap' hh hh' h1 h2=>?_,fun b e i h blk cap hb=>(by rw [gB0] at hb;cases hb)⟩
    · obtain ⟨i,o,e1,e2,e3,e4,e5⟩:=find n h hh;have hnw:=a7 (n,h) (rowc.get hh);cases o with
      | none =>
        obtain ⟨q1,t,ts,q2,q3⟩:=e3;exact .inl ⟨t,ts,q2,q3,by rw [q1];simp,.inl ⟨by rw [e5];rfl,q1⟩⟩
      | some x =>
        obtain ⟨h0,q1,q2,q3,q4,q5⟩:=e3;have hnw':h.nw=false:=hnw;refine (m.H x h0 q1).view q2 q3 (by rw [e5];rfl) (fun blk cap hs ho=>?_) (fun b hb=>by rw [hnw'];exact stc _ b hb);rw [hnw'];exact ⟨fun e=>by (cases e),.inr ⟨m.ltH q1 hs,.inr (.inl ⟨rfl,x,cap,h0,(a5 x (List.mem_of_getElem? e2)).1,q1,q4,hs⟩)⟩⟩
    · obtain ⟨i,o,e1,e2,e3,e4,e5⟩:=find n h hh;obtain ⟨i',o',e1',e2',e3',e4',e5'⟩:=find n' h' hh';rw [e5] at h1;rw [e5'] at h2;cases o with
      | none=>cases h1
      | some x=>cases o' with
        | none=>cases h2
        | some x' =>
          obtain ⟨h0,q1,_⟩:=e3;obtain ⟨h0',q1',_⟩:=e3';have:=m.uH x x' h0 h0' blk cap cap' q1 q1' h1 h2;subst this;rw [e1,e1',VP a6 e2 e2']
  have wired:Wired σ σc (AY nhc) 1 ids nhc:=YJ (fun i o p h1 h2=>by
    have h3:=rowc.idx h2;refine ⟨?_,?_⟩
    · have:1+i - 1=i:=by omega
      simp only [σc,this,h1];cases o<;>rfl
    · rw [gH0,← h3];exact rowc.has (List.mem_of_getElem? h2))
  have rargs:=a8 sk n0c σc (AY nhc) subk (frOK.frz rfl) (fun b hb hlt =>
    ⟨fun hm=>hb.1 (inMk _ hm),⟨fun e=>(by cases e),.inr ⟨hlt,.inl ⟨hb.1,hb.2⟩⟩⟩⟩) (fun hn b e blk hb hbl=>⟨fun hm=>by
      obtain ⟨i,cap,h,h0,h1,h2,h3⟩:=inM0 blk hm;exact m.uX b e i h blk cap hb h1 hbl h3,⟨fun e=>(by cases e),.inr ⟨m.ltB hb hbl,.inr (.inr ⟨by rw [hn,Bool.or_false] at hnc;exact hnc,b,e,hb,hbl⟩)⟩⟩⟩) wired
  have hlsl:(ls.map Leaf.pv).map PV.leaf=ls:=by
    rw [List.map_map]
    conv=>rhs;rw [← List.map_id ls]
    exact List.map_congr_left (fun x _=>Leaf.leaf_pv x)
  have hnil:iQ ci.gives=true→∀ q,σc q=none:=fun hn q=>by
    have hu:u=[]:=by
      have:=hgv.2;rw [hn] at this;cases u with
      | nil=>rfl
      | cons a b=>cases this
    show (match ids[q - 1]? with | some (some i)=>σ i | _=>none)=none
    split
    · rename_i i hi;have:=(a5 i (List.mem_of_getElem? hi)).1;rw [hu] at this;cases this
    · rfl
  have hcall:=hv fn hfn (ls.map Leaf.pv) rs he vs0 nhc (by rw [hlsl];exact a1) n0c σc w vals rfl m0 rargs hnil (fun g hg=>⟨(hkp g hg).1,fun hm=>(hkp g hg).2.1 (inMs g hm),Nat.lt_of_lt_of_le (hkp g hg).2.2 hn0⟩);refine Calls.mono hcall (fun e w' hret=>?_);cases e with
  | panicked c=>exact hret
  | outgrown=>exact hret
  | returned v =>
    obtain ⟨r1,r2,r3,r4,r5,r6⟩:=hret;obtain ⟨σ1,vs',nh',r7,r8,r9,r10⟩:=r6 id;rw [hb] at r7;cases r7;obtain ⟨row1,okh,okc⟩:=TN hb
    let frx:=match ci.nw with | true=>[] | false=>fr
    let base:=s.apply ({ hs:=frx }:Wr (std E N))
    let s2:=s.apply wr
    let σ2:Nat→Option (Nat×Nat):=fun n=>if id≤n∧n<id+nh.length then σ1 n else σ n
    have frxOK:FrOK s frx:=by
      show FrOK s (match ci.nw with | true=>[] | false=>fr);cases ci.nw
      · exact frOK
      · exact fun n v hm=>by simp at hm
    have gB:=fun n=>State.getB_apply0 s wr hwb n
    have gT:=fun n=>State.getT_apply0 s wr ht0 n
    have hs2:s2.hp=BK (BK (BK s.hp frx) (u.map fun n=>(n,none))) (nh.map fun (n,h)=>(n,some h)):=by
      show BK s.hp wr.hs=_;rw [hwr,E9,E9]
    have g1:∀ n,id≤n→n<id+nh.length→s2.getH n=AM nh n:=fun n h1 h2=>by
      obtain ⟨h,hh⟩:=row1.at h1 h2;rw [row1.has hh];show AM s2.hp n=_;rw [hs2];refine Vw (fun x hx e=>?_) ⟨(n,some h),List.mem_map.2 ⟨(n,h),hh,rfl⟩,rfl⟩;obtain ⟨y,hy,rfl⟩:=List.mem_map.1 hx;have h3:=row1.has (n:=y.1) (h:=y.2) hy;simp only at e;rw [e,row1.has hh] at h3;cases h3;rfl
    have g2:∀ n,¬ (id≤n∧n<id+nh.length)→s2.getH n=if n∈u then none else base.getH n:=fun n hn=>by
      show AM s2.hp n=_;rw [hs2,EZ (fun hm=>hn (by
        obtain ⟨x,hx,rfl⟩:=List.mem_map.1 hm;obtain ⟨y,hy,rfl⟩:=List.mem_map.1 hx;exact row1.mem y hy))]
      split
      · rename_i hu;exact Vw (fun x hx e=>by obtain ⟨y,hy,rfl⟩:=List.mem_map.1 hx;rfl) ⟨(n,none),List.mem_map.2 ⟨n,hu,rfl⟩,rfl⟩
      · rename_i hu;rw [EZ (fun hm=>hu (by
          obtain ⟨x,hx,rfl⟩:=List.mem_map.1 hm;obtain ⟨y,hy,rfl⟩:=List.mem_map.1 hx;exact hy))]
        rfl
    have old:∀ n h',¬ (id≤n∧n<id+nh.length)→s2.getH n=some h'→n∉u∧base.getH n=some h'∧∃ h0,s.getH n=some h0∧(h'=h0∨h'={ h0 with frozen:=true,dirty:=true }):=fun n h' hn hh=>by
      rw [g2 n hn] at hh
      split at hh
      · cases hh
      · rename_i hu;exact ⟨hu,hh,frxOK.get rfl n h' hh⟩
    have nogiveH:∀ n h0 b cap,n∉u→s.getH n=some h0→σ n=some (b,cap)→¬ InM noB σc (AY nhc) b:=fun n h0 b cap hu hh hs hm=>by
      obtain ⟨i,cap',h,q1,q2,q3,q4⟩:=inM0 b hm;exact hu (m.uH n i h0 h b cap cap' hh q2 hs q4▸q1)
    have nogiveB:∀ n e b,s.getB n=some e→β n=some b→¬ InM noB σc (AY nhc) b:=fun n e b hh hs hm=>by
      obtain ⟨i,cap',h,q1,q2,q3,q4⟩:=inM0 b hm;exact m.uX n e i h b cap' hh q2 hs q4
    have in1:∀ n h b cap,id≤n∧n<id+nh.length→s2.getH n=some h→σ1 n=some (b,cap)→InM noB σ1 (AY nh) b:=fun n h b cap hn hh hs=>by
      rw [g1 n hn.1 hn.2] at hh;exact .inr ⟨n,h,cap,hh,(okh _ (row1.get hh)).2.1,hs⟩
    have s2old:∀ n,¬ (id≤n∧n<id+nh.length)→σ2 n=σ n:=fun n hn=>by simp only [σ2,if_neg hn]
    have s2new:∀ n,id≤n∧n<id+nh.length→σ2 n=σ1 n:=fun n hn=>by simp only [σ2,if_pos hn]
    have x:Ext P n0 (fun n=>id≤n∧n<id+nh.length) β σ s w β σ2 s2 w':=by
      refine ⟨r1,r2,r3,r4,fun b hlt hm=>.inl (r5 b hlt (fun h=>hm (inMs b h))),fun b hb=>?_,fun n e hh hn=>?_,fun n h' hh hn=>?_⟩
      · rcases hb with ⟨n,e,h1,h2⟩ | ⟨n,h,cap,h1,h2,h3⟩
        · rw [gB] at h1;exact .inl (.inl ⟨n,e,h1,h2⟩)
        · by_cases hn:id≤n∧n<id+nh.length
          · rw [s2new n hn] at h3;exact (r10 b (in1 n h b cap hn h1 h3)).imp (inMs b) (fun h=>h)
          · rw [s2old n hn] at h3;obtain ⟨_,_,h0,q1,q2⟩:=old n h hn h1
            rcases q2 with rfl | rfl
            · exact .inl (.inr ⟨n,h,cap,q1,h2,h3⟩)
            · cases h2
      · rw [gB] at hh;exact ⟨⟨e,hh⟩,rfl⟩
      · obtain ⟨_,_,h0,q1,q2⟩:=old n h' hn hh;refine ⟨h0,q1,s2old n hn,?_⟩
        rcases q2 with rfl | rfl<;>exact ⟨rfl,fun _=>rfl⟩
    have stR:∀ b,StB n0c noB σ1 (AY nh) ci.nw b→StB n0 β σ2 s2 ci.nw b:=fun b hb=>by
      have hge:(¬ w.heap.size≤b.b)→ci.nw=false:=fun h=>by
        cases hnw:ci.nw with
        | false=>rfl
        | true=>exact (h (hb.2.1 hnw)).elim
      refine ⟨fun hm=>?_,⟨fun e=>Nat.le_trans hn0 (hb.2.1 e),?_⟩⟩
      · rcases hm with ⟨n,e,h1,h2⟩ | ⟨n,h,cap,h1,h2,h3⟩
        · rw [gB] at h1;have hlt:=m.ltB h1 h2
          rcases hb.2.2 with h | ⟨_,⟨h,_⟩ | ⟨_,i,cap',h,q1,q2,q3,q4⟩ | ⟨hnw,_⟩⟩
          · have:w.heap.size≤b.b:=h.1;omega
          · exact h (.inl ⟨n,e,by show (s.apply _).getB n=_;rw [State.getB_apply0 s _ rfl];exact h1,h2⟩)
          · exact m.uX n e i h b.b cap' h1 q2 h2 q4
          · have:w.heap.size≤b.b:=hb.2.1 hnw;omega
        · by_cases hn:id≤n∧n<id+nh.length
          · rw [s2new n hn] at h3;exact hb.1 (in1 n h b.b cap hn h1 h3)
          · rw [s2old n hn] at h3;obtain ⟨hu,hbase,h0,q1,q2⟩:=old n h hn h1;have hlt:=m.ltH q1 h3
            rcases hb.2.2 with h | ⟨_,⟨h,_⟩ | ⟨_,i,cap',hi,p1,p2,p3,p4⟩ | ⟨hnw,_⟩⟩
            · have:w.heap.size≤b.b:=h.1;omega
            · have hnw:=hge (by omega);refine h (.inr ⟨n,_,cap,?_,h2,h3⟩);have:base=sk:=by simp only [base,frx,hnw];rfl
              rw [← this];exact hbase
            · exact hu (m.uH n i h0 hi b.b cap cap' q1 p2 h3 p4▸p1)
            · have:w.heap.size≤b.b:=hb.2.1 hnw;omega
      · rcases hb.2.2 with h | ⟨hl9,⟨_,h⟩ | ⟨hc9,i,cap',hi,p1,p2,p3,p4⟩ | ⟨hnw,_⟩⟩
        · exact .inl ⟨Nat.le_trans hn0 h.1,h.2⟩
        · exact h.2
        · rcases m.H i hi p2 with ⟨t,ts,_,_,_,hm⟩ | hM
          case inr=>exact oE (Q:=fun b=>(n0.n≤b.b∧b.c=true)∨(b.b<n0.n∧n0.U b)) hc9 (hM.blk p4).2.2
          rcases hm with ⟨h1,_⟩ | ⟨blk,cap,cells,el,h1,_,_,_,_,ho,_⟩
          · rw [h1] at p4;cases p4
          · rw [h1] at p4;cases p4;exact oE (Q:=fun b=>(n0.n≤b.b∧b.c=true)∨(b.b<n0.n∧n0.U b)) hc9 ho.2
        · have h1:w.heap.size≤b.b:=hb.2.1 hnw;have h2:b.b<w.heap.size:=hl9;omega
    have newold:∀ n h b cap,id≤n∧n<id+nh.length→s2.getH n=some h→σ1 n=some (b,cap)→(∀ n' h' cap',¬ (id≤n'∧n'<id+nh.length)→s2.getH n'=some h'→σ n'≠some (b,cap'))∧(∀ n' e,s.getB n'=some e→β n'≠some b):=fun n h b cap hn hh hs=>by
      have:=r10 b (in1 n h b cap hn hh hs);refine ⟨fun n' h' cap' hn' hh' hs'=>?_,fun n' e hh' hs'=>?_⟩
      · obtain ⟨hu,_,h0,q1,_⟩:=old n' h' hn' hh'
        rcases this with h | h
        · exact nogiveH n' h0 b cap' hu q1 hs' h
        · have:=m.ltH q1 hs';omega
      · rcases this with h | h
        · exact nogiveB n' e b hh' hs' h
        · have:=m.ltB hh' hs';omega
    have tidy:Tidy a (fun n=>id≤n∧n<id+nh.length) s s2:=by
      refine ⟨fun n hf hn=>⟨fun q tv hq=>?_,fun q e hq=>?_,fun q h hq=>?_⟩,fun n e hh hd=>?_,fun n h hh hd=>?_⟩
      · rw [gT] at hq;exact hf.t q tv hq
      · rw [gB] at hq;exact hf.b q e hq
      · by_cases hr:id≤q∧q<id+nh.length
        · exact fun e=>hn (e▸hr)
        · obtain ⟨_,_,h0,q1,_⟩:=old q h hr hq;exact hf.h q h0 q1
      · rw [gB] at hh;exact hh
      · by_cases hr:id≤n∧n<id+nh.length
        · rw [g1 n hr.1 hr.2] at hh;have:=(okh _ (row1.get hh)).2.2;simp only at this;rw [this] at hd;cases hd
        · obtain ⟨_,_,h0,q1,q2⟩:=old n h hr hh
          rcases q2 with rfl | rfl
          · exact q1
          · cases hd
    refine ⟨σ2,⟨fun n e hh=>?_,fun n h hh=>?_,fun b b' e e' blk h h'=>?_,fun n n' h h' blk cap cap' hh hh' h1 h2=>?_,fun b e i h blk cap hb' hi h1 h2=>?_⟩,x,tidy,?_⟩
    · rw [gB] at hh;obtain ⟨blk,cells,el,q1,q2,q3,q4⟩:=m.B n e hh;exact ⟨blk,cells,el,q1,(r5 blk (Ba q2) (nogiveB n e blk hh q1)).trans q2,x.relCs (fun k hk hn=>((hid k hn.1 hn.2).b n e hh).2 hk) q3,q4⟩
    · by_cases hn:id≤n∧n<id+nh.length
      · have hh':=hh;rw [show (s.apply wr).getH n=AM nh n from g1 n hn.1 hn.2] at hh';have hnw:h.nw=ci.nw:=(okh _ (row1.get hh')).1;refine (r8.H n h hh').view rfl rfl (s2new n hn) (fun blk cap hs ho=>?_) (fun b hb _=>by rw [hnw] at hb ⊢;exact stR b hb);refine ⟨fun e=>Nat.le_trans hn0 (ho.1 e),?_⟩
        rcases ho.2 with h | ⟨hl9,⟨_,h⟩ | ⟨_,i,cap',hi,p1,p2,p3,p4⟩ | ⟨hcn,_⟩⟩
        · exact .inl ⟨Nat.le_trans hn0 h.1,rfl⟩
        · exact h.2
        · rcases m.H i hi p2 with ⟨t,ts,_,_,_,hm⟩ | hM
          case inr=>exact (hM.blk p4).2.2
          rcases hm with ⟨h1,_⟩ | ⟨blk',cap,cells,el,h1,_,_,_,_,ho,_⟩
          · rw [h1] at p4;cases p4
          · rw [h1] at p4;cases p4;exact ho.2
        · exact .inl ⟨Nat.le_trans hn0 (ho.1 (hnw.trans hcn)),rfl⟩
      · obtain ⟨hu,_,h0,q1,q2⟩:=old n h hn hh;have key:RelH P n0 β σ2 s2 w' n h0:=by
          rcases m.H n h0 q1 with ⟨t,ts,ht,hts,hrl,hm⟩ | hM
          case inr=>exact .inr (hM.view rfl rfl (s2old n hn) (fun blk cap hs=>r5 blk (m.ltH q1 hs) (nogiveH n h0 blk cap hu q1 hs)) (fun _ _ _ ho=>ho))
          refine .inl ⟨t,ts,ht,hts,hrl,?_⟩
          rcases hm with ⟨p1,p2⟩ | ⟨blk,cap,cells,el,p1,p2,p3,p4,p5,p6,v',p7,p8⟩
          · exact .inl ⟨by rw [s2old n hn];exact p1,p2⟩
          · exact .inr ⟨blk,cap,cells,el,by rw [s2old n hn];exact p1,(r5 blk (Ba p2) (nogiveH n h0 blk cap hu q1 p1)).trans p2,p3,p4,p5,p6,v',p7,fun i j t' hi hj=>x.rep (p8 i j t' hi hj)⟩
        rcases q2 with rfl | rfl
        · exact key
        · exact key.view (q:=n) rfl rfl rfl (fun _ _ _ h=>h) (fun b h _=>h)
    · rw [gB] at h h';exact m.uB b b' e e' blk h h'
    · by_cases hn:id≤n∧n<id+nh.length<;>by_cases hn':id≤n'∧n'<id+nh.length
      · rw [s2new n hn] at h1;rw [s2new n' hn'] at h2;rw [show (s.apply wr).getH n=AM nh n from g1 n hn.1 hn.2] at hh;rw [show (s.apply wr).getH n'=AM nh n' from g1 n' hn'.1 hn'.2] at hh';exact r8.uH n n' h h' blk cap cap' hh hh' h1 h2
      · rw [s2new n hn] at h1;rw [s2old n' hn'] at h2;exact ((newold n h blk cap hn hh h1).1 n' h' cap' hn' hh' h2).elim
      · rw [s2old n hn] at h1;rw [s2new n' hn'] at h2;exact ((newold n' h' blk cap' hn' hh' h2).1 n h cap hn hh h1).elim
      · rw [s2old n hn] at h1;rw [s2old n' hn'] at h2;obtain ⟨_,_,h0,q1,_⟩:=old n h hn hh;obtain ⟨_,_,h0',q1',_⟩:=old n' h' hn' hh';exact m.uH n n' h0 h0' blk cap cap' q1 q1' h1 h2
    · rw [gB] at hb'
      by_cases hn:id≤i∧i<id+nh.length
      · rw [s2new i hn] at h2;exact (newold i h blk cap hn hi h2).2 b e hb' h1
      · rw [s2old i hn] at h2;obtain ⟨_,_,h0,q1,_⟩:=old i h hn hi;exact m.uX b e i h0 blk cap hb' q1 h1 h2
    · exact RelAV.moved (fun n h1 h2=>⟨s2new n ⟨h1,h2⟩,g1 n h1 h2⟩) stR okc r9
end
section
variable {E:Env} {N:Nat} {P:Program} {n0 n0':Nz} {nt:Nat} {β β':Nat→Option Nat} {σ σ':Nat→Option (Nat×Nat)} {s s':St0 E N} {a:Act} {w w':World}
def GI (s:St0 E N) (done:List Nat):Prop:=∀ n tv,s.getT n=some tv→∀ g∈tv.gs,g.1∈done
def After (P:Program) (n0:Nz) (nt:Nat) (new:Nat→Prop) (β:Nat→Option Nat) (σ:Nat→Option (Nat×Nat)) (s:St0 E N) (a:Act) (w:World) (dst:Option Nat) (wr:Wr (std E N)) (a':Act) (w':World):Prop :=
  ∃ β' σ',Sim P n0 nt β' σ' (s.apply wr) a' w'∧Ext P n0 new β σ s w β' σ' (s.apply wr) w'∧(∀ n,Fresh a s n→¬ new n→Fresh a' (s.apply wr) n) ∧
    (∀ n e,(s.apply wr).getB n=some e→e.dirty=false→s.getB n=some e)∧(∀ n e,(s.apply wr).getH n=some e→e.dirty=false→s.getH n=some e) ∧
    a'.defers=a.defers∧∀ n,dst≠some n→a'.tmps.getD n undef=a.tmps.getD n undef
theorem Ff {a:Act} {d n:Nat} {v:Value} (h:n≠d):(a.put (some d) v).tmps.getD n undef=a.tmps.getD n undef:=by
 simp only [Act.put];rw [Array.getD_eq_getD_getElem?,Array.getD_eq_getD_getElem?,Array.getElem?_setIfInBounds];rw [if_neg (fun e=>h e.symm)]
theorem My {a:Act} {d:Nat} {v:Value} (h:d<a.tmps.size):(a.put (some d) v).tmps.getD d undef=v:=by
 simp only [Act.put];rw [Array.getD_eq_getD_getElem?,Array.getElem?_setIfInBounds];simp [h]
theorem HE {a:Act} {d:Nat} {v:Value} {gs:List (Nat×Bool)} (h:∀ g∈gs,g.1≠d):Facts (a.put (some d) v) gs↔Facts a gs:=by
 constructor
 ·intro hf n b hm;rw [← hf n b hm,Ff (h _ hm)]
 ·intro hf n b hm;rw [Ff (h _ hm)];exact hf n b hm
theorem oj {n:Nat} (h:¬ n<ED):s.getT n=none:=by
 unfold State.getT Dc;cases hb:Nat.blt n ED with
 | false=>rfl
 | true=>exact (h (Bv.1 hb)).elim
theorem Gp (hs : Sim P n0 nt β σ s a w) {done : List Nat} (gi : GI s done) {d : Nat} (hd : d ∉ done) (hdn : d < nt) {new : Nat → Prop} (hnew : ∀ n, new n → Fresh a s n)
    {ctx:List (Nat×Bool)} (hctx:∀ g∈ctx,g.1∈done) {av:AV (std E N)} {bs:List (Nat×Option (BEnt (std E N)))} {hh:List (Nat×Option (HEnt (std E N)))} {z:Value}
    (m:Mem P n0 β' σ' (s.apply { bs:=bs,hs:=hh }) w') (x:Ext P n0 new β σ s w β' σ' (s.apply { bs:=bs,hs:=hh }) w') (t:Tidy a new s (s.apply { bs:=bs,hs:=hh }))
    (hz:(Facts a ctx∧RelAV P n0 β' σ' (s.apply { bs:=bs,hs:=hh }) w' av z∧∀ n,Fresh a s n→¬ new n→n∉av.names)∨(¬ Facts a ctx∧z=undef)) :
    After P n0 nt new β σ s a w (some d) { ts:=[(d,some ⟨ctx,av⟩)],bs:=bs,hs:=hh } (a.put (some d) z) w':=by
  let wr:Wr (std E N):={ ts:=[(d,some ⟨ctx,av⟩)],bs:=bs,hs:=hh }
  have gT:=fun n=>State.getT_apply1 s d (some ⟨ctx,av⟩) wr rfl n
  have sub:Sub (s.apply { bs:=bs,hs:=hh }) (s.apply wr):=Sub.of_same (fun _=>rfl) (fun _=>rfl);have x2:=(x.trans (sub.ext P n0 (fun _=>False) β' σ' w')).weaken (fun n (h:new n∨False)=>h.elim (fun h=>h) (fun h=>h.elim));have ne:∀ {g:Nat×Bool},g.1∈done→g.1≠d:=fun hg e=>hd (e▸hg)
  have hsz:(a.put (some d) z).tmps.size=nt:=by simp [Act.put,hs.size]
  refine ⟨β',σ',⟨Nat.le_trans hs.n0le x.size,hsz,fun n tv hn=>?_,sub.mem m,(hs.kept.ext x).ext (sub.ext P n0 (fun _=>False) β' σ' w')⟩,x2,fun n hf hn=>⟨fun k tv hk hg=>?_,fun k e he=>(t.fresh n hf hn).b k e he,fun k e he=>(t.fresh n hf hn).h k e he⟩,t.cleanB,t.cleanH,rfl,fun n hn=>Ff (fun e=>hn (by rw [e]))⟩
  · rw [gT] at hn
    split at hn
    · rename_i he;cases hn;rw [he.1,My (by rw [hs.size];exact hdn)]
      rcases hz with ⟨h1,h2,_⟩ | ⟨h1,h2⟩
      · exact .inl ⟨(HE (fun g hg=>ne (hctx g hg))).2 h1,(sub.ext P n0 (fun _=>False) β' σ' w').relAV (fun _ _ h=>h) h2⟩
      · exact .inr ⟨fun h=>h1 ((HE (fun g hg=>ne (hctx g hg))).1 h),h2⟩
    · rename_i he;have hnd:n≠d:=fun e=>by
        by_cases hb:d<ED
        · exact he ⟨e,hb⟩
        · rw [e,oj hb] at hn;cases hn
      rw [Ff hnd];have hg:∀ g∈tv.gs,g.1≠d:=fun g hg=>ne (gi n tv hn g hg)
      rcases hs.T n tv hn with ⟨h1,h2⟩ | ⟨h1,h2⟩
      · exact .inl ⟨(HE hg).2 h1,x2.relAV (fun k hk hnw=>(hnew k hnw).t n tv hn h1 hk) h2⟩
      · exact .inr ⟨fun h=>h1 ((HE hg).1 h),h2⟩
  · rw [gT] at hk
    split at hk
    · rename_i he;cases hk;have hg':=(HE (fun g hg=>ne (hctx g hg))).1 hg
      rcases hz with ⟨_,_,h3⟩ | ⟨h1,_⟩
      · exact h3 n hf hn
      · exact (h1 hg').elim
    · exact hf.t k tv hk ((HE (fun g hg=>ne (gi k tv hk g hg))).1 hg)
theorem GI.put {done:List Nat} (gi:GI s done) {d:Nat} {ctx:List (Nat×Bool)} (hctx:∀ g∈ctx,g.1∈done) {av:AV (std E N)} {wr:Wr (std E N)} (hw:wr.ts=[(d,some ⟨ctx,av⟩)]):GI (s.apply wr) (d::done):=by
 intro n tv hn g hg;rw [State.getT_apply1 s d _ wr hw] at hn
 split at hn
 ·cases hn;exact zzm _ (hctx g hg)
 ·exact zzm _ (gi n tv hn g hg)
theorem XY (hs : Sim P n0 nt β σ s a w) {new : Nat → Prop} (hnew : ∀ n, new n → Fresh a s n) {wr : Wr (std E N)} (ht0 : wr.ts = [])
    (m:Mem P n0 β' σ' (s.apply wr) w') (x:Ext P n0 new β σ s w β' σ' (s.apply wr) w') (t:Tidy a new s (s.apply wr)):After P n0 nt new β σ s a w none wr a w':=by
  refine ⟨β',σ',⟨Nat.le_trans hs.n0le x.size,hs.size,fun n tv hn=>?_,m,hs.kept.ext x⟩,x,t.fresh,t.cleanB,t.cleanH,rfl,fun _ _=>rfl⟩;rw [State.getT_apply0 s wr ht0] at hn
  rcases hs.T n tv hn with ⟨h1,h2⟩ | ⟨h1,h2⟩
  · exact .inl ⟨h1,x.relAV (fun k hk hnw=>(hnew k hnw).t n tv hn h1 hk) h2⟩
  · exact .inr ⟨h1,h2⟩
theorem fq (hs : Sim P n0 nt β σ s a w) {done : List Nat} (gi : GI s done) {ops : Array Oper} {o : Oper} {ctx : List (Nat × Bool)} {k k' : Nat} (h : RM.run s (Xa (O := std E N) ops.toList o) k = .ok (ctx, k'))
    (hg:∀ j want d,o.guard=some (j,want)→(ops[j]?).bind (·.dst)=some d→d∈done) :
    (Region.wanted o (yielded ops a.tmps)=true↔Facts a ctx)∧(∀ g∈ctx,g.1∈done)∧(o.guard=none→ctx=[]):=by
  unfold Xa at h
  split at h
  · rename_i hn;cases zzc h;exact ⟨⟨fun _ n b hm=>by simp at hm,fun _=>by simp [Region.wanted,hn]⟩,fun g hm=>by simp at hm,fun _=>rfl⟩
  · rename_i j want hn
    split at h
    · rename_i d hd;obtain ⟨k1,h⟩:=zze h;cases ht:s.getT d with
      | none=>rw [ht] at h;exact (zzb h).elim
      | some tv =>
        rw [ht] at h;cases zzc h;have hd':(ops[j]?).bind (·.dst)=some d:=by rw [← Array.getElem?_toList];exact hd
        have hdd:=hg j want d hn hd';have hy:yielded ops a.tmps j=some want↔a.tmps.getD d undef=.bool want:=by
          unfold yielded;rw [hd',Option.bind_some,Array.getD_eq_getD_getElem?];cases hx:a.tmps[d]? with
          | none=>simp [undef]
          | some v=>cases v<;>simp
        have hw:Region.wanted o (yielded ops a.tmps)=true↔a.tmps.getD d undef=.bool want:=by
          rw [← hy];simp [Region.wanted,hn]
        refine ⟨⟨fun h=>?_,fun hf=>hw.2 (hf d want zzl)⟩,fun g hm=>?_,fun h=>by rw [hn] at h;cases h⟩
        · have hv:=hw.1 h
          rcases hs.T d tv ht with ⟨h1,_⟩ | ⟨_,h2⟩
          · intro n b hm
            rcases List.mem_cons.1 hm with e | hm
            · cases e;exact hv
            · exact h1 n b hm
          · rw [hv] at h2;simp [undef] at h2
        · rcases List.mem_cons.1 hm with rfl | hm
          · exact hdd
          · exact gi d tv ht g hm
    · exact (zzb h).elim
theorem Jp:∀ {gs:List (Nat×Bool)} {m m':Nat},RM.run s (WR (O:=std E N) gs) m=.ok (none,m')→gs=[]
 | [],_,_,_=>rfl
 | (n,want)::r,m,m',h=>by
  obtain ⟨m1,h⟩:=zze h
  split at h
  ·obtain ⟨g,m2,h1,h2⟩:=zza h;have:=zzc h2;cases this
  ·exact (zzb h).elim
theorem dE:∀ {fr l:List (Nat×Option (HEnt (std E N)))} {k k':Nat},RM.run s (eJ (O:=std E N) fr) k=.ok (l,k')→FrOK s l∧(FrOK s fr→l=fr)
 | [],l,k,k',h=>by cases zzc h;exact ⟨fun _ _ hm=>by simp at hm,fun _=>rfl⟩
 | (n,v)::r,l,k,k',h=>by
  obtain ⟨k1,h⟩:=zzf h;cases hh:s.getH n with
  | none=>rw [hh] at h;exact (zzb h).elim
  | some e =>
   rw [hh] at h;obtain ⟨l2,k2,h1,h2⟩:=zza h;cases zzc h2;obtain ⟨a1,a2⟩:=dE h1;refine ⟨fun q v hm=>?_,fun hf=>?_⟩
   ·rcases List.mem_cons.1 hm with e1 | hm
    ·cases e1;exact ⟨e,hh,rfl⟩
    ·exact a1 q v hm
   ·obtain ⟨h0,q1,q2⟩:=hf n v zzl;rw [hh] at q1;cases q1;rw [a2 (fun q v hm=>hf q v (zzm _ hm)),q2]
end
section
variable {E:Env} {N:Nat} {P:Program} {n0:Nz} {nt:Nat} {β:Nat→Option Nat} {σ:Nat→Option (Nat×Nat)} {s s':St0 E N} {a:Act} {w w':World}
theorem lF (m : Mem P n0 β σ s w) {id : Nat} {en h : HEnt (std E N)} (hh : s.getH id = some en) (hfz : en.frozen = false) {wr : Wr (std E N)} (ht0 : wr.ts = []) (hb : wr.bs = [])
    (hws:wr.hs=[(id,some h)]) (hd:h.dirty=true) (hz:h.frozen=false) (hle:h.e=en.e) (hll:(∃ t,AL P t=.sl en.e)→h.l.length=en.l.length) (ho:w'.os=w.os) (htp:w'.tape=w.tape) (hout:w'.output=w.output)
    (hsize:w'.heap.size=w.heap.size) (hother:∀ b,(∀ cap,σ id≠some (b,cap))→w'.heap[b]?=w.heap[b]?)
    (hrel:Ext P n0 (fun _=>False) β σ s w β σ (s.apply wr) w'→RelH P n0 β σ (s.apply wr) w' id h) :
    Mem P n0 β σ (s.apply wr) w'∧Ext P n0 (fun _=>False) β σ s w β σ (s.apply wr) w'∧Tidy a (fun _=>False) s (s.apply wr):=by
  have gB:=fun n=>State.getB_apply0 s wr hb n
  have gs:∀ n,(s.apply wr).getH n=if n=id then some h else s.getH n:=fun n=>by
    unfold State.apply State.getH;simp only [hws,BK];exact BQ _ _ _ _
  have hget:(s.apply wr).getH id=some h:=by rw [gs,if_pos rfl]
  have fget:∀ n h',n≠id→(s.apply wr).getH n=some h'→s.getH n=some h':=fun n h' hn he=>by rwa [gs,if_neg hn] at he
  have hin:∀ blk cap,σ id=some (blk,cap)→InM β σ s blk:=fun blk cap hs=>.inr ⟨id,en,cap,hh,hfz,hs⟩
  have hoth:∀ b,¬ InM β σ s b→w'.heap[b]?=w.heap[b]?:=fun b hm=>hother b (fun cap hs=>hm (hin b cap hs))
  have x:Ext P n0 (fun _=>False) β σ s w β σ (s.apply wr) w':=by
    refine ⟨ho,htp,hout,by omega,fun b hb hm=>.inl (hoth b hm),fun b hb=>.inl ?_,fun b e he hn=>?_,fun n e he hn=>?_⟩
    · rcases hb with ⟨n,e,he,hb⟩ | ⟨n,e,cap',he,hfz',hb⟩
      · rw [gB] at he;exact .inl ⟨n,e,he,hb⟩
      · by_cases hid:n=id
        · rw [hid] at hb;exact hin b cap' hb
        · exact .inr ⟨n,e,cap',fget n e hid he,hfz',hb⟩
    · rw [gB] at he;exact ⟨⟨e,he⟩,rfl⟩
    · by_cases hid:n=id
      · subst hid;rw [hget] at he;cases he;exact ⟨en,hh,rfl,hle,hll⟩
      · exact ⟨e,fget n e hid he,rfl,rfl,fun _=>rfl⟩
  refine ⟨W1 (id:=id) m x (fun n e he=>?_) (fun n e blk' he hb=>?_) (fun n h' hn he=>?_) (fun n h' blk' cap' hn he hs=>?_) (fun h' he=>?_) (fun blk' cap' hs=>?_),x,⟨fun n hfn _=>?_,fun n e he hd'=>?_,fun n e he hd'=>?_⟩⟩
  · rw [gB] at he;exact ⟨e,he,rfl,fun _ _ h=>h⟩
  · rw [gB] at he;exact hother blk' (fun cap hs=>m.uX n e id en blk' cap he hh hb hs)
  · exact ⟨h',fget n h' hn he,rfl,rfl,rfl,fun h=>h,rfl⟩
  · exact hother blk' (fun cap hs2=>hn (m.uH n id h' en blk' cap' cap (fget n h' hn he) hh hs hs2))
  · rw [hget] at he;cases he;exact hrel x
  · refine ⟨fun n e he hb=>?_,fun n h' cap'' hn he hs2=>?_⟩
    · rw [gB] at he;exact m.uX n e id en blk' cap' he hh hb hs
    · exact hn (m.uH n id h' en blk' cap'' cap' (fget n h' hn he) hh hs2 hs)
  · refine ⟨fun q tv hq=>?_,fun q e he=>?_,fun q e he=>?_⟩
    · rw [State.getT_apply0 s wr ht0] at hq;exact hfn.t q tv hq
    · rw [gB] at he;exact hfn.b q e he
    · by_cases hq:q=id
      · rw [hq];exact hfn.h id en hh
      · exact hfn.h q e (fget q e hq he)
  · rw [gB] at he;exact he
  · by_cases hq:n=id
    · rw [hq,hget] at he;cases he;rw [hd] at hd';cases hd'
    · exact fget n e hq he
theorem Tidy.of_sub {fr:List (Nat×Option (HEnt (std E N)))} (h:PreOK s fr) {wr:Wr (std E N)} (hw:wr.hs=fr) (hb:wr.bs=[]) (ht:wr.ts=[]) (new:Nat→Prop):Tidy a new s (s.apply wr) where
 fresh n hf _:=⟨fun k tv hk=>by rw [State.getT_apply0 s wr ht] at hk;exact hf.t k tv hk,fun k e he=>by rw [State.getB_apply0 s wr hb] at he;exact hf.b k e he,fun k e he=>by
  obtain ⟨h0,q1,_⟩:=h.get hw k e he;exact hf.h k h0 q1⟩
 cleanB n e he hd:=by rw [State.getB_apply0 s wr hb] at he;exact he
 cleanH n e he hd:=by
  obtain ⟨h0,q1,q2⟩:=h.get hw n e he
  rcases q2 with rfl | rfl
  ·exact q1
  ·cases hd
theorem Tidy.weaken {new new':Nat→Prop} (t:Tidy a new s s') (h:∀ n,new n→new' n):Tidy a new' s s' :=
 ⟨fun n hf hn=>t.fresh n hf (fun k=>hn (h n k)),t.cleanB,t.cleanH⟩
end
open Go.Lib
def tS (w:World) (e:TypeId) (v:Value) (bs:List Value):Prop :=
  (v=.slice none 0 0∧bs=[])∨∃ g cap cur,v=.slice (some ⟨g,0,none⟩) bs.length cap∧w.heap[g]?=some (.cells cur e (0,0))∧0<cap∧bs.length≤cap∧cur.size=cap∧cur.toList.take bs.length=bs
def iL (w:World) (T e:TypeId) (b:Nat) (v:Value) (bs:List Value):Prop :=
  (∃ p,w.heap[b]?=some (.cells #[p,v] T (0,0))∧(p=.pointer none∨p=.pointer (some ⟨b,0,none⟩)))∧tS w e v bs
structure Rest (w w':World) (b:Nat) (g:Option Nat):Prop where
 os:w'.os=w.os
 tape:w'.tape=w.tape
 output:w'.output=w.output
 size:w.heap.size≤w'.heap.size
 block:∀ k,k<w.heap.size→k≠b→g≠some k→w'.heap[k]?=w.heap[k]?
def AAA (w:World) (v v':Value):Prop:=v'.ownBlock=v.ownBlock∨∃ g,v'.ownBlock=some g∧w.heap.size≤g
def iY (w:World) (T e:TypeId) (b:Nat) (v:Value) (bs:List Value) (w':World):Prop :=
 ∃ v',w'.heap[b]?=some (.cells #[.pointer (some ⟨b,0,none⟩),v'] T (0,0))∧tS w' e v' bs∧Rest w w' b v.ownBlock∧AAA w v v'
def ABw (w:World) (v:Value) (w':World):Prop :=
 w'.os=w.os∧w'.tape=w.tape∧w'.output=w.output∧w.heap.size≤w'.heap.size∧∀ k,k<w.heap.size→v.ownBlock≠some k→w'.heap[k]?=w.heap[k]?
def VZ (P:Program) (b:Bld):Prop:=match b.k with
 | 0=>∀ n v bs s w,iL w b.T b.u n v bs→bs.length+s.size≤140737488355328→Calls P b.f #[.pointer (some ⟨n,0,none⟩),.string s] w fun e w'=>e=.returned (.tuple #[.int .i64 s.size,.nilIface])∧iY w b.T b.u n v (bs++strCells s) w'
 | 1=>∀ n v bs c w,iL w b.T b.u n v bs→bs.length+1≤140737488355328→Calls P b.f #[.pointer (some ⟨n,0,none⟩),.int .u8 c] w fun e w'=>e=.returned .nilIface∧iY w b.T b.u n v (bs++[.int .u8 c]) w'
 | 2=>∀ n v l w,iL w b.T b.u n v (byteCells l)→l.length≤9223372036854775807→Calls P b.f #[.pointer (some ⟨n,0,none⟩)] w fun e w'=>e=.returned (.string ⟨l.toArray⟩)∧ABw w v w'
 | _=>True
structure GamOK (P:Program) (E:Env) (N:Nat) (cfg:Cfg):Prop where
 ci:∀ ci∈cfg.gam,KB P E N ci∧KB P E N { ci with own:=false }
 bld:∀ b∈cfg.bld,VZ P b
section
variable {E:Env} {N:Nat} {P:Program} {n0:Nz} {nt:Nat} {β:Nat→Option Nat} {σ:Nat→Option (Nat×Nat)} {s s':St0 E N} {a:Act} {w w':World}
theorem mf:∀ {l:List Bld} {f:Nat} {b:Bld},iC l f=some b→b∈l∧b.f=f
 | c::l,f,b,h=>by
  simp only [iC] at h
  split at h
  ·rename_i hb;cases h;exact ⟨zzl,AE.1 hb⟩
  ·obtain ⟨h1,h2⟩:=mf h;exact ⟨zzm _ h1,h2⟩
 | [],_,_,h=>by simp [iC] at h
def Gone (s:St0 E N) (g:List (Nat×Option (HEnt (std E N)))):Prop:=g=[]∨∃ q en,g=[(q,none)]∧s.getH q=some en∧en.frozen=false
theorem Gone.get {g : List (Nat × Option (HEnt (std E N)))} (h : Gone s g) {wr : Wr (std E N)} (hw : wr.hs = g) (k : Nat) (h' : HEnt (std E N)) (hk : (s.apply wr).getH k = some h') :
    s.getH k=some h'∧∀ v,(k,v)∉g:=by
  rcases h with rfl | ⟨q,en,rfl,hq,_⟩
  · rw [State.getH_apply0 s wr hw] at hk;exact ⟨hk,fun v=>by simp⟩
  · have : (s.apply wr).getH k = if k = q then none else s.getH k := by
      unfold State.apply State.getH;simp only [hw,BK];exact BQ _ _ _ _
    rw [this] at hk
    split at hk
    · cases hk
    · rename_i hne;exact ⟨hk,fun v hm=>hne (by simp at hm;exact hm.1)⟩
theorem Gone.mem {g:List (Nat×Option (HEnt (std E N)))} (h:Gone s g) {q:Nat} {v:Option (HEnt (std E N))} (hm:(q,v)∈g):∃ en,s.getH q=some en∧en.frozen=false:=by
 rcases h with rfl | ⟨q',en,rfl,hq,hf⟩
 ·simp at hm
 ·simp only [List.mem_singleton,Prod.mk.injEq] at hm;obtain ⟨rfl,_⟩:=hm;exact ⟨en,hq,hf⟩
theorem ze (m : Mem P n0 β σ s w) {id n blk : Nat} (hid : Fresh a s id) {e : BEnt (std E N)} (he : s.getB n = some e) (hb : β n = some blk) {cs' : List (AC0 E N)} {g : List (Nat × Option (HEnt (std E N)))} (hg : Gone s g) {h : HEnt (std E N)} (hd : h.dirty = true)
    {sid:Option (Nat×Nat)} (ho:w'.os=w.os) (htp:w'.tape=w.tape) (hout:w'.output=w.output) (hsize:w.heap.size≤w'.heap.size)
    (hblock:∀ k,k<w.heap.size→k≠blk→(∀ q v cap,(q,v)∈g→σ q≠some (k,cap))→w'.heap[k]?=w.heap[k]?)
    (hloc:∀ k cap,sid=some (k,cap)→(∃ q v cap0,(q,v)∈g∧σ q=some (k,cap0))∨w.heap.size≤k)
    {wr:Wr (std E N)} (ht0:wr.ts=[]) (hbs:wr.bs=[(n,some { cs:=cs',dirty:=true })]) (hhs:wr.hs=g++[(id,some h)])
    (hrB:Ext P n0 (·=id) β σ s w β (upd σ id sid) (s.apply wr) w'→(s.apply wr).getH id=some h→tJ P n0 β (upd σ id sid) (s.apply wr) w' n { cs:=cs',dirty:=true })
    (hcn:∀ k,Fresh a s k→k≠id→k∉AH cs')
    (hrH:Ext P n0 (·=id) β σ s w β (upd σ id sid) (s.apply wr) w'→RelH P n0 β (upd σ id sid) (s.apply wr) w' id h) :
    Mem P n0 β (upd σ id sid) (s.apply wr) w'∧Ext P n0 (·=id) β σ s w β (upd σ id sid) (s.apply wr) w'∧Tidy a (·=id) s (s.apply wr):=by
  have gB:=fun k=>State.getB_apply1 s n (some { cs:=cs',dirty:=true }) wr hbs k
  have gs:∀ k,(s.apply wr).getH k=if k=id then some h else (s.apply ({ hs:=g }:Wr (std E N))).getH k:=fun k=>by
    unfold State.apply State.getH;simp only [hhs,E9,BK];exact BQ _ _ _ _
  have hget:(s.apply wr).getH id=some h:=by rw [gs,if_pos rfl]
  have fget:∀ k h',k≠id→(s.apply wr).getH k=some h'→s.getH k=some h'∧∀ v,(k,v)∉g:=fun k h' hk he=>by
    rw [gs,if_neg hk] at he;exact hg.get rfl k h' he
  have bget:∀ k e',(s.apply wr).getB k=some e'→∃ e0,s.getB k=some e0:=fun k e' h=>by
    rw [gB] at h
    by_cases hk:k=n
    · exact ⟨e,by rw [hk];exact he⟩
    · rw [if_neg hk] at h;exact ⟨e',h⟩
  have x:Ext P n0 (·=id) β σ s w β (upd σ id sid) (s.apply wr) w':=by
    refine ⟨ho,htp,hout,hsize,fun k hk hm=>.inl (hblock k hk (fun e1=>hm (.inl ⟨n,e,he,e1▸hb⟩)) (fun q v cap hq hs=>?_)),fun k hk=>?_,fun k e' hk hn=>⟨bget k e' hk,rfl⟩,fun k h' hk hn=>?_⟩
    · obtain ⟨en,h1,h2⟩:=hg.mem hq;exact hm (.inr ⟨q,en,cap,h1,h2,hs⟩)
    · rcases hk with ⟨k',e',h1,h2⟩ | ⟨k',h',cap,h1,h2,h3⟩
      · obtain ⟨e0,h0⟩:=bget k' e' h1;exact .inl (.inl ⟨k',e0,h0,h2⟩)
      · by_cases hki:k'=id
        · rw [hki,A8] at h3
          rcases hloc k cap h3 with ⟨q,v,cap0,hq,hs⟩ | h4
          · obtain ⟨en,h4,h5⟩:=hg.mem hq;exact .inl (.inr ⟨q,en,cap0,h4,h5,hs⟩)
          · exact .inr h4
        · rw [BB _ _ hki] at h3;exact .inl (.inr ⟨k',h',cap,(fget k' h' hki h1).1,h2,h3⟩)
    · exact ⟨h',(fget k h' hn hk).1,BB _ _ hn,rfl,fun _=>rfl⟩
  refine ⟨dv (id:=id) m x (fun k e' hk=>?_) (fun k h' hk hh=>?_) (fun k h' b2 cap hk hh hs=>?_) (fun h' hh=>?_) (fun b2 cap hs=>?_),x,⟨fun k hf hk=>⟨fun j tv hj=>?_,fun j e' hj=>?_,fun j h' hj=>?_⟩,fun k e' hk hdd=>?_,fun k h' hk hdd=>?_⟩⟩
  · rw [gB] at hk
    by_cases hkn:k=n
    · rw [if_pos hkn] at hk;cases hk;exact ⟨e,by rw [hkn];exact he,by rw [hkn];exact hrB x hget⟩
    · rw [if_neg hkn] at hk;obtain ⟨b2,cells,el,q1,q2,q3,q4⟩:=m.B k e' hk;refine ⟨e',hk,b2,cells,el,q1,(hblock b2 (Ba q2) (fun e2=>hkn (m.uB k n e' e b2 hk he q1 (e2▸hb))) (fun q v cap hq hs=>?_)).trans q2,x.relCs (fun j hj hji=>(hid.b k e' hk).2 (hji▸hj)) q3,q4⟩;obtain ⟨en,h4,h5⟩:=hg.mem hq;exact m.uX k e' q en b2 cap hk h4 q1 hs
  · exact ⟨h',(fget k h' hk hh).1,rfl,rfl,rfl,fun h=>h,BB _ _ hk⟩
  · obtain ⟨h1,h2⟩:=fget k h' hk hh;refine hblock b2 (m.ltH h1 hs) (fun e2=>m.uX n e k h' blk cap he h1 hb (e2▸hs)) (fun q v cap' hq hs'=>?_);obtain ⟨en,h4,h5⟩:=hg.mem hq;have:=m.uH k q h' en b2 cap cap' h1 h4 hs hs';exact h2 v (this▸hq)
  · rw [hget] at hh;cases hh;exact hrH x
  · rw [A8] at hs
    rcases hloc b2 cap hs with ⟨q,v,cap0,hq,hs0⟩ | hnew
    · obtain ⟨en,h4,h5⟩:=hg.mem hq;refine ⟨fun k e' hk hbk=>?_,fun k h' cap' hk hh hs1=>?_⟩
      · obtain ⟨e0,h0⟩:=bget k e' hk;exact m.uX k e0 q en b2 cap0 h0 h4 hbk hs0
      · obtain ⟨h1,h2⟩:=fget k h' hk hh;have:=m.uH k q h' en b2 cap' cap0 h1 h4 hs1 hs0;exact h2 v (this▸hq)
    · refine ⟨fun k e' hk hbk=>?_,fun k h' cap' hk hh hs1=>?_⟩
      · obtain ⟨e0,h0⟩:=bget k e' hk;have:=m.ltB h0 hbk;omega
      · have:=m.ltH (fget k h' hk hh).1 hs1;omega
  · rw [State.getT_apply0 s wr ht0] at hj;exact hf.t j tv hj
  · rw [gB] at hj
    by_cases hjn:j=n
    · rw [if_pos hjn] at hj;cases hj;exact ⟨by rw [hjn];exact (hf.b n e he).1,hcn k hf hk⟩
    · rw [if_neg hjn] at hj;exact hf.b j e' hj
  · by_cases hji:j=id
    · rw [hji];exact hk
    · exact hf.h j h' (fget j h' hji hj).1
  · rw [gB] at hk
    by_cases hkn:k=n
    · rw [if_pos hkn] at hk;cases hk;cases hdd
    · rw [if_neg hkn] at hk;exact hk
  · by_cases hki:k=id
    · rw [hki,hget] at hk;cases hk;rw [hd] at hdd;cases hdd
    · exact (fget k h' hki hk).1
theorem w9 (m : Mem P n0 β σ s w) {id : Nat} (hid : Fresh a s id) {g : List (Nat × Option (HEnt (std E N)))} (hg : Gone s g)
    (ho:w'.os=w.os) (htp:w'.tape=w.tape) (hout:w'.output=w.output) (hsize:w.heap.size≤w'.heap.size)
    (hblock:∀ k,k<w.heap.size→(∀ q v cap,(q,v)∈g→σ q≠some (k,cap))→w'.heap[k]?=w.heap[k]?)
    {wr:Wr (std E N)} (ht0:wr.ts=[]) (hbs:wr.bs=[]) (hhs:wr.hs=g) :
    Mem P n0 β (upd σ id none) (s.apply wr) w'∧Ext P n0 (·=id) β σ s w β (upd σ id none) (s.apply wr) w'∧Tidy a (·=id) s (s.apply wr):=by
  have gB:=fun k=>State.getB_apply0 s wr hbs k
  have fget:∀ k h',(s.apply wr).getH k=some h'→s.getH k=some h'∧∀ v,(k,v)∉g:=fun k h' he=>hg.get hhs k h' he
  have hne:∀ k h',(s.apply wr).getH k=some h'→k≠id:=fun k h' he e=>hid.h k h' (fget k h' he).1 e.symm
  have x:Ext P n0 (·=id) β σ s w β (upd σ id none) (s.apply wr) w':=by
    refine ⟨ho,htp,hout,hsize,fun k hk hm=>.inl (hblock k hk (fun q v cap hq hs=>?_)),fun k hk=>.inl ?_,fun k e' hk hn=>⟨⟨e',by rw [gB] at hk;exact hk⟩,rfl⟩,fun k h' hk hn=>⟨h',(fget k h' hk).1,BB _ _ hn,rfl,fun _=>rfl⟩⟩
    · obtain ⟨en,h1,h2⟩:=hg.mem hq;exact hm (.inr ⟨q,en,cap,h1,h2,hs⟩)
    · rcases hk with ⟨k',e',h1,h2⟩ | ⟨k',h',cap,h1,h2,h3⟩
      · rw [gB] at h1;exact .inl ⟨k',e',h1,h2⟩
      · rw [BB _ _ (hne k' h' h1)] at h3;exact .inr ⟨k',h',cap,(fget k' h' h1).1,h2,h3⟩
  refine ⟨dv (id:=id) m x (fun k e' hk=>?_) (fun k h' hk hh=>?_) (fun k h' b2 cap hk hh hs=>?_) (fun h' hh=>(hne id h' hh rfl).elim) (fun b2 cap hs=>by rw [A8] at hs;cases hs),x,⟨fun k hf hk=>⟨fun j tv hj=>?_,fun j e' hj=>?_,fun j h' hj=>?_⟩,fun k e' hk hdd=>?_,fun k h' hk hdd=>(fget k h' hk).1⟩⟩
  · rw [gB] at hk;obtain ⟨b2,cells,el,q1,q2,q3,q4⟩:=m.B k e' hk;refine ⟨e',hk,b2,cells,el,q1,(hblock b2 (Ba q2) (fun q v cap hq hs=>?_)).trans q2,x.relCs (fun j hj hji=>(hid.b k e' hk).2 (hji▸hj)) q3,q4⟩;obtain ⟨en,h4,h5⟩:=hg.mem hq;exact m.uX k e' q en b2 cap hk h4 q1 hs
  · exact ⟨h',(fget k h' hh).1,rfl,rfl,rfl,fun h=>h,BB _ _ hk⟩
  · obtain ⟨h1,h2⟩:=fget k h' hh;refine hblock b2 (m.ltH h1 hs) (fun q v cap' hq hs'=>?_);obtain ⟨en,h4,h5⟩:=hg.mem hq;have:=m.uH k q h' en b2 cap cap' h1 h4 hs hs';exact h2 v (this▸hq)
  · rw [State.getT_apply0 s wr ht0] at hj;exact hf.t j tv hj
  · rw [gB] at hj;exact hf.b j e' hj
  · exact hf.h j h' (fget j h' hj).1
  · rw [gB] at hk;exact hk
end
end Go.Px
end
section
namespace Go.Px
open Go.Lib
def H7 (l:Rows):List Value:=l.map fun r=>.int .u8 (pvI (AA r 0))
def Zz (l:Rows):List UInt8:=l.map fun r=>(pvI (AA r 0)).toNat.toUInt8
theorem xq (s:ByteArray):H7 (DD s)=strCells s:=by
 simp [H7,DD,strCells,AA,pvI]
theorem qM (l r:Rows):H7 (l++r)=H7 l++H7 r:=by simp [H7]
theorem Pr (l:Rows):(H7 l).length=l.length:=by simp [H7]
theorem fE:∀ {l:Rows},Xc l=true→H7 l=byteCells (Zz l)
 | [],_=>rfl
 | r::l,h=>by
  simp only [Xc,List.all_cons,zzj,decide_eq_true_eq] at h;obtain ⟨⟨h1,h2⟩,h3⟩:=h;have ih:=fE (l:=l) h3;obtain ⟨k,hk⟩:∃ k:Nat,pvI (AA r 0)=(k:Int):=⟨(pvI (AA r 0)).toNat,by omega⟩;have e:((pvI (AA r 0)).toNat.toUInt8).toNat=k:=by
   rw [hk];simp;omega
  show Value.int .u8 (pvI (AA r 0))::H7 l=Value.int .u8 (((pvI (AA r 0)).toNat.toUInt8).toNat:Int)::byteCells (Zz l);rw [ih,e,hk]
section
variable {E:Env} {N:Nat} {P:Program} {n0:Nz} {nt:Nat} {β:Nat→Option Nat} {σ:Nat→Option (Nat×Nat)} {s s':St0 E N} {a:Act} {w w':World}
theorem pU {u:TypeId} (h:gV P u=true):∃ t,AW P u=some [t]∧AL P t=.int .u8:=by
 unfold gV at h
 split at h
 ·rename_i t h1 h2
  split at h
  ·rename_i h3;exact ⟨t,h2,h3⟩
  ·cases h
 ·cases h
structure BufIs (P:Program) (n0:Nz) (σ:Nat→Option (Nat×Nat)) (s:St0 E N) (w:World) (u:TypeId) (v:Value) (l:Rows) (nw:Bool) (g:List (Nat×Option (HEnt (std E N)))):Prop where
 buf:tS w u v (H7 l)
 rows:∀ r∈l,∃ i,r=[PV.int i]
 gone:Gone s g
 typ:∃ t,AL P t=.sl u
 blk:∀ k,v.ownBlock=some k→Old n0 nw ⟨k,true⟩∧∃ q x cap,(q,x)∈g∧σ q=some (k,cap)
theorem wh (m : Mem P n0 β σ s w) {u : TypeId} (hu : gV P u = true) {c : AC0 E N} {v : Value} (hc : RelC P n0 β σ s w c v) (hv : v = .slice none 0 0 ∨ ∃ a n c, v = .slice a n c ∧ 0 < c)
    {l:Rows} {nw:Bool} {g:List (Nat×Option (HEnt (std E N)))} {k k':Nat} (h:RM.run s (sJ u c) k=.ok ((l,nw,g),k')):BufIs P n0 σ s w u v l nw g:=by
  obtain ⟨t0,ht1,ht2⟩:=pU hu;have nilCase:∀ {a:Option Addr},v=.slice a 0 0→v=.slice none 0 0:=fun {a} e=>by
    rcases hv with hv | ⟨x,n,c,h1,h2⟩
    · exact hv
    · rw [e] at h1;cases h1;omega
  unfold sJ at h
  split at h
  · obtain ⟨_,k1,h1,h2⟩:=zza h;cases zzc h2;have:=AE.1 (zzd h1);subst this;obtain ⟨t,ts,q1,q2,ad,q3⟩:=hc;have:=nilCase q3;subst this;exact ⟨.inl ⟨rfl,rfl⟩,fun r hr=>absurd hr List.not_mem_nil,.inl rfl,⟨t,q1⟩,fun k hk=>by cases hk⟩
  · rename_i e q;obtain ⟨k1,h⟩:=zzf h;cases hh:s.getH q with
    | none=>rw [hh] at h;exact (zzb h).elim
    | some en =>
      rw [hh] at h;obtain ⟨_,k2,h1,h2⟩:=zza h;cases zzc h2;have hg:=zzd h1;simp only [zzj,Bool.not_eq_true'] at hg;obtain ⟨hfz,e1,e2⟩:=hg;have e1:=AE.1 e1;have e2:=AE.1 e2;obtain ⟨⟨t,ht,_⟩,hk⟩:=hc;obtain ⟨_,ho⟩:=hk en hh;have hgone:Gone s [(q,none)]:=.inr ⟨q,en,rfl,hh,hfz⟩
      rcases m.H q en hh with ⟨t2,ts,q1,q2,q3,q4⟩ | hM
      case inr=>exact (hM.noSl (t:=t) (by rw [ht,e1,e2])).elim
      rw [e2,ht1] at q2;cases q2
      rcases ho with ⟨blk,cap,hsi,hva⟩ | ⟨hsi,hz,av0,hva⟩
      · rcases q4 with ⟨hn,_⟩ | ⟨blk',cap',cells,el,r1,r2,r3,r4,r5,r6,f,r7,r8⟩
        · rw [hn] at hsi;cases hsi
        · rw [r1] at hsi;obtain ⟨rfl,rfl⟩:blk'=blk∧cap'=cap:=by simpa using hsi
          have hcap:0<cap':=by
            rcases hv with hv | ⟨x,n,c,h3,h4⟩
            · rw [hva] at hv;cases hv
            · rw [hva] at h3;cases h3;exact h4
          have cell:∀ i,i<en.l.length→∃ n,f i 0=.int .u8 n∧en.l[i]?=some [PV.int n]:=fun i hi=>by
            have h6:=r8 i 0 t0 hi rfl;generalize f i 0=z at h6;have hlen:=q3 en.l[i] (List.getElem_mem hi)
            match hr:en.l[i],hlen with
            | [p],_ =>
              have h7:AF en.l i 0=p:=by simp [AF,AB,AA,List.getD,zzn hi,hr]
              rw [h7] at h6;have:∃ n,z=.int .u8 n∧p=.int n:=by
                generalize t0=t1 at h6 ht2;cases h6 with
                | int h=>rw [ht2] at h;cases h;exact ⟨_,rfl,rfl⟩
                | bool h=>rw [ht2] at h;cases h
                | str h=>rw [ht2] at h;cases h
                | sl _ h=>rw [ht2] at h;cases h
                | opq h _=>rw [ht2] at h;cases h
              obtain ⟨n,h8,h9⟩:=this;exact ⟨n,h8,by rw [zzn hi,hr,h9]⟩
          refine ⟨.inr ⟨blk',cap',cells,by rw [Pr];exact hva,by rw [r2,r3,e2],hcap,by rw [Pr];exact r5,by simpa using r4,?_⟩,fun r hr=>?_,hgone,⟨t,by rw [ht,e1]⟩,fun k hk=>?_⟩
          · apply List.ext_getElem?;intro i;rw [List.getElem?_take,Pr]
            by_cases hi:i<en.l.length
            · rw [if_pos hi,Array.getElem?_toList];have h5:=r7 i 0 hi (by simp);simp only [List.length_singleton,Nat.mul_one,Nat.add_zero] at h5;obtain ⟨n,h8,h9⟩:=cell i hi;rw [h5,h8];simp only [H7,List.getElem?_map,h9,Option.map_some];rfl
            · rw [if_neg hi];simp [H7,Nat.not_lt.1 hi]
          · obtain ⟨i,hi⟩:=List.getElem?_of_mem hr;obtain ⟨n,_,h9⟩:=cell i (List.getElem?_eq_some_iff.1 hi).1;rw [hi] at h9;exact ⟨n,by simpa using h9⟩
          · rw [hva] at hk;cases hk;exact ⟨r6,q,none,_,List.mem_singleton.2 rfl,r1⟩
      · have hl0:en.l=[]:=List.length_eq_zero_iff.1 hz;have:=nilCase hva;subst this;refine ⟨.inl ⟨rfl,by rw [hl0];rfl⟩,fun r hr=>by rw [hl0] at hr;exact absurd hr List.not_mem_nil,hgone,⟨t,by rw [ht,e1]⟩,fun k hk=>by cases hk⟩
  · exact (zzb h).elim
theorem pK (hs : Sim P n0 nt β σ s a w) {b : Bld} {c : AC0 E N} {v : Value} (hc : RelC P n0 β σ s w c v) {n : Nat} {l : Rows} {nw : Bool} {g : List (Nat × Option (HEnt (std E N)))} {k k' : Nat} (h : RM.run s (mM P b c) k = .ok ((n, l, nw, g), k')) :
    ∃ e blk x,s.getB n=some e∧β n=some blk∧v=.pointer (some ⟨blk,0,none⟩)∧gV P b.u=true∧iL w b.T b.u blk x (H7 l)∧BufIs P n0 σ s w b.u x l nw g:=by
  unfold mM at h
  split at h
  case h_2=>exact (zzb h).elim
  rename_i n' off;obtain ⟨k1,h⟩:=zzg h;cases he:s.getB n' with
  | none=>rw [he] at h;exact (zzb h).elim
  | some e =>
    rw [he] at h;simp only at h
    split at h
    case h_2=>exact (zzb h).elim
    rename_i T c1 hcs;obtain ⟨_,k2,h1,h2⟩:=zza h;obtain ⟨⟨l2,nw2,g2⟩,k3,h3,h4⟩:=zza h2;cases zzc h4;have hg:=zzd h1;simp only [zzj] at hg;obtain ⟨e1,e2,e3⟩:=hg;have e1:=AE.1 e1;have e2:=AE.1 e2;subst e2;obtain ⟨blk,rfl,hb⟩:=hc;have hb:=hb e he;obtain ⟨blk',cells,el,q1,q2,q3,q4⟩:=hs.M.B n e he;rw [hb] at q1;cases q1;rw [hcs] at q3 q4;obtain ⟨r1,p,x,rfl,r2,r3⟩:=q4;have hx:RelC P n0 β σ s w c1 x:=q3.2.1;have hbuf:=wh hs.M e3 hx r3 h3;exact ⟨e,blk,x,he,hb,rfl,e3,⟨⟨p,by rw [q2,r1,e1],r2⟩,hbuf.buf⟩,hbuf⟩
def o7 (P:Program) (n0:Nz) (β:Nat→Option Nat) (σ:Nat→Option (Nat×Nat)) (s:St0 E N) (a:Act) (w:World) (ctx:List (Nat×Bool)) (o:Oper) (id:Nat) (as:List Bool) (wr:Wr (std E N)):Prop :=
  (∀ b∈as,b=true)→∃ f vals Q,(execOp a.eval o).run P w=.ok (.enter f vals) w∧Calls P f vals w Q∧∀ e w',Q e w'→∃ z β' σ',e=.returned z∧Mem P n0 β' σ' (s.apply { bs:=wr.bs,hs:=wr.hs }) w'∧Ext P n0 (·=id) β σ s w β' σ' (s.apply { bs:=wr.bs,hs:=wr.hs }) w'∧Tidy a (·=id) s (s.apply { bs:=wr.bs,hs:=wr.hs }) ∧
    ∃ d v,o.dst=some d∧wr.ts=[(d,some ⟨ctx,v⟩)]∧RelAV P n0 β' σ' (s.apply { bs:=wr.bs,hs:=wr.hs }) w' v z∧∀ n,Fresh a s n→n≠id→n∉v.names
theorem qi {l:Rows} (h:iSm (l.length:Int) 1=true):l.length≤17592186044416:=by
 simp only [iSm,decide_eq_true_eq] at h;omega
theorem oO (hs : Sim P n0 nt β σ s a w) {ctx : List (Nat × Bool)} {id : Nat} (hid : Fresh a s id) {o : Oper} {d : Nat} (hd : o.dst = some d) {b : Bld} {c : AC0 E N} {v : Value} (hc : RelC P n0 β σ s w c v) {new : Rows} {av : AV (std E N)} {r : StepRes (std E N)} {m m' : Nat}
    (h:RM.run s (mO P ctx id d b c new av) m=.ok (some r,m')) (hnew:∀ r∈new,∃ i,r=[.int i]) {z:Value} {xs:List Value} (hnm:av.names=[])
    (hrel:∀ β' σ' (s1:St0 E N) w',RelAV P n0 β' σ' s1 w' av z) (hen:(execOp a.eval o).run P w=.ok (.enter b.f (v::xs).toArray) w)
    (hcall:∀ n x bs,iL w b.T b.u n x bs→bs.length+new.length≤140737488355328→Calls P b.f (Value.pointer (some ⟨n,0,none⟩)::xs).toArray w fun e w'=>e=.returned z∧iY w b.T b.u n x (bs++H7 new) w') :
    ∃ as wr,r=.plain as wr∧o7 P n0 β σ s a w ctx o id as wr:=by
  obtain ⟨⟨n,l,nw,g⟩,m1,h1,h2⟩:=zza h;refine ⟨_,_,(Option.some.inj (zzc h2)).symm,fun has=>?_⟩;obtain ⟨e,blk,x,he,hb,rfl,hbt,hat,hbuf⟩:=pK hs hc h1;have hsm:=qi (l:=l++new) (has _ zzl);have hlen:(H7 l).length+new.length≤140737488355328:=by rw [Pr];rw [List.length_append] at hsm;omega
  obtain ⟨t0,ht1,ht2⟩:=pU hbt;refine ⟨_,_,_,hen,hcall blk x (H7 l) hat hlen,fun e2 w' hw=>?_⟩;obtain ⟨rfl,v',hbk',hbuf',hrest,hsame⟩:=hw;rw [← qM] at hbuf'
  let hn:HEnt (std E N):={ e:=b.u,frozen:=false,nw,l:=l++new,dirty:=true }
  let wr:Wr (std E N):={ bs:=[(n,some { cs:=[.any b.T,.own b.u id],dirty:=true })],hs:=g++[(id,some hn)] }
  have hlt:blk<w.heap.size:=by obtain ⟨⟨p,q,_⟩,_⟩:=hat;exact Ba q
  let sid:Option (Nat×Nat):=match v' with | .slice (some ad) _ cap=>some (ad.block,cap) | _=>none
  have hsid:(sid=none∧v'=.slice none 0 0∧l++new=[])∨∃ g' cap cur,sid=some (g',cap)∧v'=.slice (some ⟨g',0,none⟩) (l++new).length cap∧w'.heap[g']?=some (.cells cur b.u (0,0))∧0<cap∧(l++new).length≤cap∧cur.size=cap∧cur.toList.take (l++new).length=H7 (l++new):=by
    rcases hbuf' with ⟨rfl,h0⟩ | ⟨g',cap,cur,rfl,q⟩
    · exact .inl ⟨rfl,rfl,by simpa [H7] using h0⟩
    · rw [Pr] at q;exact .inr ⟨g',cap,cur,rfl,by rw [Pr],q⟩
  have hown:∀ g' cap,sid=some (g',cap)→v'.ownBlock=some g':=fun g' cap hh=>by
    rcases hsid with ⟨q,_⟩ | ⟨g2,cap2,cur,q1,q2,_⟩
    · rw [q] at hh;cases hh
    · rw [q1] at hh;cases hh;rw [q2];rfl
  have hloc:∀ k cap,sid=some (k,cap)→(∃ q x' cap0,(q,x')∈g∧σ q=some (k,cap0))∨w.heap.size≤k:=fun k cap hh=>by
    have h3:=hown k cap hh
    rcases hsame with h4 | ⟨g2,h4,h5⟩
    · rw [h3] at h4;exact .inl (hbuf.blk k h4.symm).2
    · rw [h3] at h4;cases h4;exact .inr h5
  have hold:∀ k cap,sid=some (k,cap)→Old n0 nw ⟨k,true⟩:=fun k cap hh=>by
    have h3:=hown k cap hh
    rcases hsame with h4 | ⟨g2,h4,h5⟩
    · rw [h3] at h4;exact (hbuf.blk k h4.symm).1
    · rw [h3] at h4;cases h4;exact Old.new (Nat.le_trans hs.n0le h5)
  have hints:∀ r∈l++new,∃ i,r=[PV.int i]:=fun r hr=>(List.mem_append.1 hr).elim (hbuf.rows r) (hnew r)
  have hrows:∀ r∈l++new,r.length=1:=fun r hr=>by obtain ⟨i,rfl⟩:=hints r hr;rfl
  suffices fin:Mem P n0 β (upd σ id sid) (s.apply wr) w'∧Ext P n0 (·=id) β σ s w β (upd σ id sid) (s.apply wr) w'∧Tidy a (·=id) s (s.apply wr) by
    obtain ⟨q1,q2,q3⟩:=fin;exact ⟨z,β,_,rfl,q1,q2,q3,d,av,hd,rfl,hrel _ _ _ _,fun n _ _=>by rw [hnm];simp⟩
  refine (ze (P:=P) (n0:=n0) (w':=w') (a:=a) hs.M hid he hb hbuf.gone (h:=hn) rfl (sid:=sid) (wr:=wr) hrest.os hrest.tape hrest.output hrest.size
    (fun k hk hkb hq=>hrest.block k hk hkb (fun e3=>by
      obtain ⟨_,q,x',cap,h6,h7⟩:=hbuf.blk k e3;exact hq q x' cap h6 h7)) hloc rfl rfl rfl
    (fun xx hget=>⟨blk,_,b.T,hb,hbk',⟨rfl,⟨?_,fun h2 hh2=>?_⟩,trivial⟩,rfl,_,_,rfl,.inr rfl,?_⟩)
    (fun k _ hk=>by simpa [AH,AC.names] using hk)
    (fun xx=>?_))
  · obtain ⟨t,ht⟩:=hbuf.typ;refine ⟨t,ht,?_⟩
    rcases hsid with ⟨_,q,_⟩ | ⟨g',cap,cur,_,q,_⟩<;>exact ⟨_,_,_,q⟩
  · have hh3:some hn=some h2:=hget.symm.trans hh2;cases hh3;refine ⟨rfl,?_⟩
    rcases hsid with ⟨h3,h4,h5⟩ | ⟨g',cap,cur,h3,h4,_⟩
    · exact .inr ⟨by rw [A8];exact h3,by show (l++new).length=0;rw [h5];rfl,none,h4⟩
    · exact .inl ⟨g',cap,by rw [A8];exact h3,h4⟩
  · rcases hsid with ⟨_,h4,_⟩ | ⟨g',cap,cur,_,h4,_,h5,_⟩
    · exact .inl h4
    · exact .inr ⟨_,_,_,h4,h5⟩
  · obtain ⟨t,ht⟩:=hbuf.typ;refine .inl ⟨t,[t0],ht,ht1,hrows,?_⟩
    rcases hsid with ⟨h3,h4,h5⟩ | ⟨g',cap,cur,h3,h4,h5,h6,h7,h8,h9⟩
    · exact .inl ⟨by rw [A8];exact h3,h5⟩
    · refine .inr ⟨g',cap,cur,b.u,by rw [A8];exact h3,h5,rfl,by simpa using h8,h7,hold g' cap h3,fun i _=>.int .u8 (pvI (AF (l++new) i 0)),fun i j hi hj=>?_,fun i j t' hi hj=>?_⟩
      · have hi:i<(l++new).length:=hi;have hj0:j=0:=by simp at hj;exact hj
        subst hj0;have h10:(cur.toList.take (l++new).length)[i]?=some (.int .u8 (pvI (AF (l++new) i 0))):=by
          rw [h9];simp only [H7,List.getElem?_map,zzn hi,Option.map_some];simp [AF,AB,List.getD,zzn hi]
        rw [List.getElem?_take,if_pos hi,Array.getElem?_toList] at h10;simpa using h10
      · have hi:i<(l++new).length:=hi;have hj0:j=0:=by have:=(List.getElem?_eq_some_iff.1 hj).1;simp at this;exact this
        subst hj0;simp at hj;subst hj;show Rep P w' _ t0 (.int .u8 (pvI (AF (l++new) i 0))) (AF (l++new) i 0);have:∃ k,AF (l++new) i 0=.int k:=by
          obtain ⟨k,hk⟩:=hints _ (List.getElem_mem hi);exact ⟨k,by simp [AF,AB,List.getD,zzn hi,hk,AA]⟩
        obtain ⟨k,hk⟩:=this;rw [hk];exact .int ht2
theorem w8 (hs : Sim P n0 nt β σ s a w) {ctx : List (Nat × Bool)} (hf : Facts a ctx) {id : Nat} (hid : Fresh a s id) {o : Oper} {b : Bld} (hB : VZ P b) {x : Operand} {rs : List Operand} {args : Array Operand} {tys : Array TypeId} (hargs : args.toList = x :: rs)
    (hop:o.op=.call ⟨.value (.func b.f),args,tys⟩) {c:AC0 E N} (hc:RelC P n0 β σ s w c (a.eval x)) {r:StepRes (std E N)} {m m':Nat} (h:RM.run s (mP P ctx id o.dst b c rs) m=.ok (some r,m')) :
    ∃ as wr,r=.plain as wr∧o7 P n0 β σ s a w ctx o id as wr:=by
  unfold mP at h;cases hfn:P.funcs[b.f]? with
  | none=>rw [hfn] at h;exact (zzb h).elim
  | some fn =>
    rw [hfn] at h;obtain ⟨_,m1,h1,h2⟩:=zza h;have hg:=zzd h1;simp only [zzj,Bool.not_eq_true'] at hg;obtain ⟨q4,q5⟩:=hg;have hev:a.eval (.func b.f)=.func (.func b.f) #[] #[]:=rfl;have hnb:fn.body.isNone=false:=by cases hb:fn.body<;>simp_all
    have hex:(execOp a.eval o).run P w=.ok (.enter b.f (a.eval x::rs.map a.eval).toArray) w:=by
      have harr:args.map a.eval=(a.eval x::rs.map a.eval).toArray:=by apply Array.ext';simp [hargs]
      simp only [beq_eq_false_iff_ne,ne_eq] at q5;rw [← harr];simp [execOp,hop,resolve,Deferred.ofValue,hev,invoke,callFunc,hfn,q5,hnb];intro hbn;rw [hbn] at q4;cases q4
    split at h2
    · rename_i y d hk hd;obtain ⟨cy,m2,h3,h4⟩:=zza h2;have hy:=(C5 hs hf h3).1
      split at h4
      case h_2=>exact (zzb h4).elim
      rename_i str;have hy:a.eval y=.string str:=hy;rw [List.map_singleton,hy] at hex;unfold VZ at hB;rw [hk] at hB;refine oO hs hid hd hc h4 (fun r hr=>?_) (z:=.tuple #[.int .i64 str.size,.nilIface]) rfl (fun β' σ' s1 w'=>⟨_,rfl,⟨⟨rfl,trivial⟩,rfl⟩,⟨⟨rfl,trivial⟩,rfl⟩,trivial⟩) hex (fun n v bs hat hl=>?_)
      · obtain ⟨u,_,rfl⟩:=List.mem_map.1 hr;exact ⟨_,rfl⟩
      · rw [xq];exact hB n v bs str w hat (by
          have e:(DD str).length=str.size:=by simp [DD]
          have hl:bs.length+(DD str).length≤140737488355328:=hl;omega)
    · rename_i y d hk hd;obtain ⟨cy,m2,h3,h4⟩:=zza h2;have hy:=(C5 hs hf h3).1
      split at h4
      case h_2=>exact (zzb h4).elim
      rename_i i;have hy:a.eval y=.int .u8 i:=hy;rw [List.map_singleton,hy] at hex;unfold VZ at hB;rw [hk] at hB;refine oO hs hid hd hc h4 (fun r hr=>?_) (z:=.nilIface) rfl (fun β' σ' s1 w'=>⟨⟨rfl,trivial⟩,rfl⟩) hex (fun n v bs hat hl=>?_)
      · have hr:r∈[[Leaf.pv (.int i)]]:=hr;simp at hr;exact ⟨i,hr⟩
      · exact hB n v bs i w hat hl
    · rename_i d hk hd;obtain ⟨⟨n,l,nw,g⟩,m2,h3,h4⟩:=zza h2;refine ⟨_,_,(Option.some.inj (zzc h4)).symm,fun has=>?_⟩;obtain ⟨e,blk,v,he,hb,hx,hbt,hat,hbuf⟩:=pK hs hc h3;have hsm:=qi (l:=l) (has _ zzl);have hby:Xc l=true:=has _ (zzm _ zzl);rw [List.map_nil,hx] at hex;rw [fE hby] at hat;unfold VZ at hB;rw [hk] at hB;refine ⟨_,_,_,hex,hB blk v (Zz l) w hat (by
        have e:(Zz l).length=l.length:=by simp [Zz]
        omega),fun e2 w' hw=>?_⟩
      obtain ⟨rfl,r1,r2,r3,r4,r5⟩:=hw;obtain ⟨q1,q2,q3⟩:=w9 (P:=P) (n0:=n0) (w':=w') (a:=a) hs.M hid hbuf.gone r1 r2 r3 r4 (fun k hk hq=>r5 k hk (fun e3=>by
        obtain ⟨_,q,x',cap,h6,h7⟩:=hbuf.blk k e3;exact hq q x' cap h6 h7)) (wr:={ hs:=g }) rfl rfl rfl
      exact ⟨_,β,_,rfl,q1,q2,q3,d,_,hd,rfl,⟨⟨rfl,trivial⟩,rfl⟩,fun n _ _=>by simp [AV.names,one,AH,AC.names]⟩
    · exact (zzb h2).elim
end
end Go.Px
end
section
namespace Go.Px
section
variable {E:Env} {N:Nat} {P:Program} {n0:Nz} {nt:Nat} {β:Nat→Option Nat} {σ:Nat→Option (Nat×Nat)} {s s':St0 E N} {a:Act} {w w':World}
theorem yF {e e':TypeId} (h:FX P e=true) (h':FX P e'=true):e=e':=by
 unfold FX at h h';simp only [zzj] at h h';rw [AE.1 h.1,AE.1 h'.1]
theorem Mem.tch (m : Mem P n0 β σ s w) (ho : w'.os = w.os) (htp : w'.tape = w.tape) (hout : w'.output = w.output) (hsz : w'.heap.size = w.heap.size)
    (hb:∀ b,w'.heap[b]?=w.heap[b]?∨(¬ InM β σ s b∧TCh P n0.n w w' b)):Mem P n0 β σ s w'∧Ext P n0 (fun _=>False) β σ s w β σ s w':=by
  have x:Ext P n0 (fun _=>False) β σ s w β σ s w':=⟨ho,htp,hout,by omega,fun b _ _=>(hb b).imp id And.right,fun _ h=>.inl h,fun b e h _=>⟨⟨e,h⟩,rfl⟩,fun id h hh _=>⟨h,hh,rfl,rfl,fun _=>rfl⟩⟩;refine ⟨⟨fun n e he=>?_,fun n h hh=>?_,m.uB,m.uH,m.uX⟩,x⟩
  · obtain ⟨blk,cells,el,h1,h2,h3,h4⟩:=m.B n e he;exact ⟨blk,cells,el,h1,((hb blk).elim id (fun h=>(h.1 (.inl ⟨n,e,he,h1⟩)).elim)).trans h2,x.relCs (fun _ _=>id) h3,h4⟩
  · rcases m.H n h hh with ⟨t,ts,ht,hts,hrl,hm⟩ | hM
    · refine .inl ⟨t,ts,ht,hts,hrl,?_⟩
      rcases hm with hm | ⟨blk,cap,cells,el,ha,hheap,hel,hc,hd,hnw,v,hv,hrep⟩
      · exact .inl hm
      · exact .inr ⟨blk,cap,cells,el,ha,((hb blk).elim id (fun h=>(h.2.not hheap (hel▸kO ht)).elim)).trans hheap,hel,hc,hd,hnw,v,hv,fun i j t' hi hj=>x.rep (hrep i j t' hi hj)⟩
    · refine .inr (hM.view rfl rfl rfl (fun blk cap hs=>?_) (fun _ _ _ ho=>ho))
      rcases hb blk with h | ⟨_,_,c,c',e,h1,_⟩
      · exact h
      · obtain ⟨n',r,_,_,a4,a5,_⟩:=hM;rw [hs] at a4;cases a4;unfold sT at a5;rw [h1] at a5;cases a5
theorem xS {z:Array Value} (hz:∀ u∈z.toList,u.oneCell'=true) (h1:z.size=1) (n:Nat):∀ v∈(Builtin.zeroCells z n).toList,v.oneCell'=true:=fun v hv=>by
 unfold Builtin.zeroCells at hv;rw [Array.toList_map] at hv;obtain ⟨i,_,rfl⟩:=List.mem_map.1 hv;have:i % z.size<z.size:=Nat.mod_lt _ (by omega);rw [getElem!_pos z _ this];exact hz _ (by simp)
theorem vh {n:Int} {b:Nat} (h:iSm n b=true):0≤n∧n≤17592186044416∧n * b≤17592186044416:=by
 have:=of_decide_eq_true h;exact ⟨this.1,this.2.1,this.2.2.1⟩
theorem xQ (hs : Sim P n0 nt β σ s a w) {T ty e : TypeId} {ti : TypeInfo} (he : dY P T = some e) (hi : P.info? e = some ti) {zz : Val (std E N)} (hz : JF (O := std E N) P e = some zz) (hz1 : zz.cs.length = 1) {vx vy : Value} {n : Int} {q mm : Nat} {en : BEnt (std E N)}
    (hx:RelC P n0 β σ s w (.opq true n) vx) (hy:RelC P n0 β σ s w (.qlit q mm) vy) (hq:s.getB q=some en) (hm:mm≤en.cs.length) (hm0:0<mm) (hm1:mm≤100000)
    (h1:iSm n 1=true) (h2:iSm (IntKind.i64.wrap (n+(mm:Int))) ti.bytes=true) :
    ∃ z w',(Builtin.append_ #[T,T] ty #[vx,vy]).run P w=.ok z w'∧Mem P n0 β σ s w'∧Ext P n0 (fun _=>False) β σ s w β σ s w'∧Rep P w' (StB n0 β σ s true) T z (.int (IntKind.i64.wrap (n+(mm:Int)))):=by
  obtain ⟨hu,hlk,hop,hce,ts,hts⟩:=aK he;obtain ⟨ti',zv,hi',hiz,hzv,hrz,hnz,hoz⟩:=HF (n0:=n0) (β:=β) (σ:=σ) (s:=s) (w:=w) hz;rw [hi] at hi';cases hi';have htz:ti.size=1:=by rw [← hce];simp [Program.cellsOf,hi]
  obtain ⟨b1,b2,_⟩:=vh h1;have hw:IntKind.i64.wrap (n+(mm:Int))=n+(mm:Int):=by
    unfold IntKind.wrap;simp [IntKind.signed,IntKind.bits];omega
  rw [hw] at h2 ⊢;obtain ⟨_,c2,c3⟩:=vh h2;obtain ⟨t,ht,hrep⟩:=hx;cases hrep with
  | int h=>rw [ht] at h;cases h
  | @opq _ ax len cap h hc hk =>
    obtain ⟨blkq,rfl,blk2,hv,hβ⟩:=hy;cases hv;obtain ⟨blk',cells,el,q1,q2,q3,_⟩:=hs.M.B q en hq;rw [hβ en hq] at q1;cases q1;have hcl:mm≤cells.size:=by have:=RelCs.length q3;simp at this;omega
    have hnl:(cells.toList.take mm).length=mm * ti.size:=by rw [List.length_take,htz,Array.length_toList];omega
    have hnews:∀ j u,(cells.toList.take mm)[j]?=some u→w.cell? ((⟨blkq,0,none⟩:Addr).add j)=some u:=fun j u hj=>by
      rw [Fu,Dt q2];rw [List.getElem?_take] at hj
      split at hj
      · simpa using hj
      · cases hj
    have hone:∀ u∈cells.toList.take mm,u.oneCell'=true:=fun u hu=>RelCs.one q3 u (List.mem_of_mem_take hu)
    have hdat:((len:Int)+(mm:Int))=((len+mm:Nat):Int):=by omega
    rw [hdat];have known:cap=0∨∃ b cellsx,ax=some ⟨b,0,none⟩∧n0.n≤b∧¬ InM β σ s b∧Old n0 true ⟨b,true⟩∧w.heap[b]?=some (.cells cellsx e (0,0))∧cap≤cellsx.size∧∀ v∈cellsx.toList,v.oneCell'=true:=by
      rcases hk with hk | ⟨b,off,ha,hb,hlt,hk⟩
      · exact .inl hk
      · have hge:=hb.2.1 rfl;have hct:b.c=true:=by
          rcases hb.2.2 with h | h
          · exact h.2
          · have:=h.1;omega
        obtain ⟨rfl,cx,elx,k1,k2,k3,k4⟩:=hk hct;have:=yF k2 hop;subst this;exact .inr ⟨b.b,cx,ha,hge,hb.1,⟨fun _=>hge,.inl ⟨hge,rfl⟩⟩,k1,k3,k4⟩
    by_cases hroom:len+mm≤cap
    · rcases known with hk0 | ⟨b,cx,rfl,hge,hin,hold,k1,k3,k4⟩
      · omega
      · have hrun:=run_append_room (P:=P) (w:=w) T ty e ti hu hi b len cap cx k1 ⟨blkq,0,none⟩ mm mm (cells.toList.take mm) hnl hnews hone hroom (by rw [hnl,htz];omega);rw [hnl,htz,Nat.mul_one,Nat.mul_one] at hrun;have hh:=setRow_heap w b cx (cx.toList.take len++cells.toList.take mm++cx.toList.drop (len+mm)).toArray e (0,0) k1;have hXs:(cx.toList.take len++cells.toList.take mm++cx.toList.drop (len+mm)).toArray.size=cx.size:=by
          simp only [List.size_toArray,List.length_append,List.length_take,List.length_drop,Array.length_toList];omega
        have hX1:∀ v∈(cx.toList.take len++cells.toList.take mm++cx.toList.drop (len+mm)).toArray.toList,v.oneCell'=true:=fun v hv=>by
          simp only [List.mem_append] at hv
          rcases hv with (hv | hv) | hv
          · exact k4 v (List.mem_of_mem_take hv)
          · exact hone v hv
          · exact k4 v (List.mem_of_mem_drop hv)
        obtain ⟨m1,x1⟩:=hs.M.tch (w':=w.setRow b (cx.toList.take len++cells.toList.take mm++cx.toList.drop (len+mm)).toArray) rfl rfl rfl (by simp) (fun k=>by
          by_cases hkb:k=b
          · subst hkb;exact .inr ⟨hin,hge,cx,_,e,k1,hh,hXs,hop,hX1⟩
          · exact .inl (setRow_other w b k _ hkb))
        exact ⟨_,_,hrun,m1,x1,.opq hlk hroom (.inr ⟨⟨b,true⟩,0,rfl,⟨hin,hold⟩,Ba hh,fun _=>⟨rfl,_,e,hh,hop,by rw [hXs];exact k3,hX1⟩⟩)⟩
    · obtain ⟨olds, ho1, ho2, ho3⟩ : ∃ olds : List Value, olds.length = len ∧ (∀ b, ax = some b → ∀ j v, olds[j]? = some v → w.cell? (b.add j) = some v) ∧ ∀ v ∈ olds, v.oneCell' = true := by
        rcases known with hk0 | ⟨b,cx,rfl,hge,hin,hold,k1,k3,k4⟩
        · exact ⟨[],by simp;omega,fun _ _ j v hj=>by simp at hj,by simp⟩
        · refine ⟨cx.toList.take len,by rw [List.length_take,Array.length_toList];omega,fun b' hb j v hj=>?_,fun v hv=>k4 v (List.mem_of_mem_take hv)⟩;cases hb;rw [Fu,Dt k1];rw [List.getElem?_take] at hj
          split at hj
          · simpa using hj
          · cases hj
      have hnb:ax=none→len=0∧cap=0:=fun hn=>by
        rcases known with hk0 | ⟨b,cx,ha,_⟩
        · exact ⟨by omega,hk0⟩
        · rw [hn] at ha;cases ha
      have hrun:=WU (P:=P) (w:=w) (ty:=ty) hu hi hiz (base:=ax) (n:=len) (cap:=cap) (m:=mm) (c:=mm) (b:=blkq) (off:=0)
        (olds:=olds) (news:=cells.toList.take mm) (by rw [ho1,htz,Nat.mul_one]) ho2 hnb hnl hnews (by omega) (by omega) (by
          have:(((len+mm) * ti.bytes:Nat):Int)≤17592186044416:=by rw [Int.natCast_mul,← hdat];exact c3
          omega)
      have hzl:zv.cells.size=1:=by
        have h3:=RelCs.length hrz.1;simp at h3;omega
      have hge:=grownCap_ge w (len+mm) cap e;have hlt:=Mt w.drew (.cells (olds.toArray++(cells.toList.take mm).toArray++Builtin.zeroCells zv.cells (grownCap w (len+mm) cap e - (len+mm))) e);have g:=(Grow.drew w).trans (Grow.alloc w.drew (.cells (olds.toArray++(cells.toList.take mm).toArray++Builtin.zeroCells zv.cells (grownCap w (len+mm) cap e - (len+mm))) e));refine ⟨_,_,hrun,hs.M.grow g,g.ext P n0 _ β σ s,.opq hlk hge (.inr ⟨⟨w.heap.size,true⟩,0,rfl,⟨fun hm=>?_,Old.new hs.n0le⟩,Ba hlt,fun _=>⟨rfl,_,e,hlt,hop,?_,fun v hv=>?_⟩⟩)⟩
      · rcases hm with ⟨b,e1,he1,hb⟩ | ⟨i,h1,cap1,hh,_,hb⟩
        · have:=hs.M.ltB he1 hb;simp at this
        · have:=hs.M.ltH hh hb;simp at this
      · simp only [Array.size_append,List.size_toArray,size_zeroCells,hzl,ho1,hnl,htz];omega
      · simp only [Array.toList_append,List.mem_append] at hv
        rcases hv with (hv | hv) | hv
        · exact ho3 v hv
        · exact hone v hv
        · exact xS hoz hzl _ v hv
end
section
variable {E:Env} {N:Nat} {P:Program} {n0:Nz} {nt:Nat} {β:Nat→Option Nat} {σ:Nat→Option (Nat×Nat)} {s s':St0 E N} {a:Act} {w w':World}
theorem cm {T e' : TypeId} (hu : P.underlying T = some (.slice e')) {lo hi : Option Value} {lb ub : Int} {av : Option Addr} {len cap : Nat} {ts : List TypeId}
    (b1:(lo=none∧lb=0)∨∃ k,lo=some (.int k lb)) (b2:(hi=none∧ub=len)∨∃ k,hi=some (.int k ub)) (hts:AW P e'=some ts) (hc:len≤cap)
    (c1:0≤lb) (c2:lb≤ub) (c3:ub≤(len:Int)) :
    (Instr.sliceAt T (.slice av len cap) lo hi none).run P w=.ok (.slice (if cap=lb.toNat then av else av.map (·.add (lb.toNat * ts.length))) (ub.toNat - lb.toNat) (cap - lb.toNat)) w:=by
  obtain ⟨hsz,hpos⟩:=Cw hts;obtain ⟨ti,hti⟩:=D7 (P:=P) (t:=e') (by omega);have hsb:=N7 (P:=P) (w:=w) (isSl:=true) b1 b2 c1 c2 c3 hc;unfold Instr.sliceAt;rw [Sem.run_bind,run_underlying hu,Result.andThen_ok];simp [Instr.slice,run_underlying hu,hsb,BS hti,hsz]
def Wn (P:Program) (n0:Nz) (β:Nat→Option Nat) (σ:Nat→Option (Nat×Nat)) (s:St0 E N) (a:Act) (w:World) (ctx:List (Nat×Bool)) (o:Oper) (id:Nat) (as:List Bool) (wr:Wr (std E N)):Prop :=
  (∀ b∈as,b=true)→∃ z β' σ' w',((execOp a.eval o).run P w=.ok (.value z) w'∨((execOp a.eval o).run P w=.ok .skip w'∧z=undef))∧Mem P n0 β' σ' (s.apply { hs:=wr.hs }) w'∧Ext P n0 (·=id) β σ s w β' σ' (s.apply { hs:=wr.hs }) w'∧Tidy a (·=id) s (s.apply { hs:=wr.hs })∧wr.bs=[] ∧
    ((∃ d v,o.dst=some d∧wr.ts=[(d,some ⟨ctx,v⟩)]∧RelAV P n0 β' σ' (s.apply { hs:=wr.hs }) w' v z∧∀ n,Fresh a s n→n≠id→n∉v.names)∨(o.dst=none∧wr.ts=[]))
theorem wG (hs : Sim P n0 nt β σ s a w) {ctx : List (Nat × Bool)} (hf : Facts a ctx) {id : Nat} (hid : Fresh a s id) {o : Oper} {T : TypeId} {x hi : Operand} {lo : Option Operand} (hop : o.op = .slice T x lo (some hi) none) (hlo : UV lo = true)
    {c:AC0 E N} (hc:RelC P n0 β σ s w c (a.eval x)) {r:StepRes (std E N)} {m m':Nat} (h:RM.run s (Zb P ctx id o.dst T hi c) m=.ok (some r,m')):∃ as wr,r=.plain as wr∧Wn P n0 β σ s a w ctx o id as wr:=by
  unfold Zb at h
  split at h
  case h_2=>cases zzc h
  rename_i e q e' d heT hd;obtain ⟨m1,h0⟩:=zzf h;cases hh:s.getH q with
  | none=>rw [hh] at h0;exact (zzb h0).elim
  | some en =>
    rw [hh] at h0;simp only at h0
    split at h0
    case h_2=>cases zzc h0
    rename_i hg;simp only [zzj,Bool.not_eq_true'] at hg;obtain ⟨hfz,hg1,hg2⟩:=hg;have he1:=AE.1 hg1;have he2:=AE.1 hg2;subst he2;obtain ⟨b,m2,h1,h2⟩:=zza h0;obtain ⟨b,rfl⟩:∃ j:Int,j=b:=⟨b,rfl⟩;have hr:=zzc h2;refine ⟨_,_,(Option.some.inj hr).symm,fun has=>?_⟩;have hb:decide (0≤(0:Int)∧(0:Int)≤b∧b≤((List.length en.l:Nat):Int))=true:=has _ zzl;have hb:=of_decide_eq_true hb;obtain ⟨k,hk⟩:=Wv hs hf h1;have hu:=QD heT
    rcases hs.M.H q en hh with ⟨t,ts,ht,hts,hrl,hm⟩ | hM
    case inr=>exact (hM.noSl (t:=T) (by rw [← he1];exact CL heT)).elim
    rw [← he1] at hts ht;have hlo':(lo.map a.eval=none∧(0:Int)=0)∨∃ k,lo.map a.eval=some (.int k 0):=by
      rcases QN (ctx:=ctx) hlo with rfl | ⟨k,rfl⟩
      · exact .inl ⟨rfl,rfl⟩
      · exact .inr ⟨k,by simp [Act.eval]⟩
    have run:∀ {av:Option Addr} {len cap:Nat},a.eval x=.slice av len cap→en.l.length=len→len≤cap→(execOp a.eval o).run P w=.ok (.value (.slice (if cap=(0:Int).toNat then av else av.map (·.add ((0:Int).toNat * ts.length))) (b.toNat - (0:Int).toNat) (cap - (0:Int).toNat))) w:=by
      intro av len cap hv hl hcp;refine Ci (x:=Instr.sliceAt T (a.eval x) (lo.map a.eval) (some (a.eval hi)) none) (by simp [execOp,hop]) ?_;rw [hv,hk];exact cm hu hlo' (.inr ⟨k,rfl⟩) hts hcp (Int.le_refl _) hb.2.1 (by rw [← hl];exact hb.2.2)
    have hbl:(en.l.take b.toNat).length=b.toNat:=by rw [List.length_take];have:=hb.2.2;omega
    obtain ⟨_,hkk⟩:=hc;obtain ⟨_,ho⟩:=hkk en hh;have hpv:∀ i j,i<b.toNat→AF (en.l.take b.toNat) i j=AF en.l i j:=fun i j hi=>by simp [AF,AB,List.getD,List.getElem?_take,hi]
    let hnew:HEnt (std E N):={ en with l:=en.l.take b.toNat,dirty:=true }
    rcases ho with ⟨blk,cap,hsi,hva⟩ | ⟨hsi,hz,av0,hva⟩
    · rcases hm with ⟨hn,_⟩ | ⟨blk',cap',cells,el,hs',hheap,hel,hsz,hcap,hnw,u,hu1,hrep⟩
      · rw [hn] at hsi;cases hsi
      · rw [hs'] at hsi;cases hsi;subst hel;have hlen:b.toNat≤en.l.length:=by have:=hb.2.2;omega
        obtain ⟨q1,q2,q3,q4⟩:=eV hs.M hid hh hfz hs' (h:=hnew) (wr:={ hs:=[(q,none),(id,some hnew)] }) (w':=w) rfl rfl rfl rfl hfz rfl rfl rfl rfl (fun _ _=>rfl) hheap (by rw [he1] at ht;exact ht) (by rw [he1] at hts;exact hts)
          (fun r hr=>hrl r (List.mem_of_mem_take hr)) hsz (by show (en.l.take b.toNat).length≤cap;omega) hnw u
          (fun i j hi hj=>hu1 i j (by have:i<(en.l.take b.toNat).length:=hi;omega) hj)
          (fun i j t' hi hj=>by
            have hi':i<b.toNat:=by have:i<(en.l.take b.toNat).length:=hi;omega
            show Rep P w _ t' (u i j) (AF (en.l.take b.toNat) i j);rw [hpv i j hi'];exact hrep i j t' (by omega) hj)
        refine ⟨_,β,_,w,.inl (run hva rfl hcap),q1,q2,q3,rfl,.inl ⟨d,one (.own e id),hd,rfl,Aj ?_,fun n _ hn=>by simpa [AV.names,one,AH,AC.names] using hn⟩⟩;have hsl:(Value.slice (if cap=(0:Int).toNat then (some ⟨blk,0,none⟩:Option Addr) else (some (⟨blk,0,none⟩:Addr)).map (·.add ((0:Int).toNat * ts.length))) (b.toNat - (0:Int).toNat) (cap - (0:Int).toNat))=.slice (some ⟨blk,0,none⟩) b.toNat cap:=by
          split<;>simp [Fu]
        rw [hsl];have:=LM (P:=P) (n0:=n0) (β:=β) (w':=w) (T0:=T) (h:=hnew) (by show _=LK.sl en.e;rw [← he1];exact CL heT) q4 (A8 σ id (some (blk,cap))) (n:=b.toNat) hbl.symm;rw [show hnew.e=e from he1.symm] at this;exact this
    · have hl0:en.l=[]:=List.length_eq_zero_iff.1 hz;have hb0:b=0:=by have h2:=hb.2.2;rw [hl0] at h2;have:=hb.2.1;simp at h2;omega
      subst hb0;have hpre:PreOK s [(q,(none:Option (HEnt (std E N))))]:=fun n v hm=>by
        simp only [List.mem_singleton,Prod.mk.injEq] at hm;exact .inl hm.2
      obtain ⟨q1,q2,q3,q4⟩:=kE hs.M hid hpre (h:=hnew) (wr:={ hs:=[(q,none)]++[(id,some hnew)] }) rfl rfl rfl rfl (by simp [hnew,hl0]) (by rw [he1] at ht;exact ht) (by rw [he1] at hts;exact hts);refine ⟨_,β,_,w,.inl (run hva (by rw [hl0];rfl) (Nat.le_refl _)),q1,q2,q3,rfl,.inl ⟨d,one (.own e id),hd,rfl,Aj ?_,fun n _ hn=>by simpa [AV.names,one,AH,AC.names] using hn⟩⟩;refine ⟨⟨T,CL heT,_,_,_,rfl⟩,fun h2 hh2=>?_⟩;have hh3:some hnew=some h2:=q4.symm.trans hh2;cases hh3;exact ⟨he1.symm,.inr ⟨A8 _ _ _,by simp [hnew,hl0],av0,by simp⟩⟩
theorem uQ (hs : Sim P n0 nt β σ s a w) {ctx : List (Nat × Bool)} (hf : Facts a ctx) {id : Nat} {o : Oper} {T : TypeId} {x lo : Operand} (hop : o.op = .slice T x (some lo) none none)
    {c:AC0 E N} (hc:RelC P n0 β σ s w c (a.eval x)) (hcn:∀ n,Fresh a s n→n∉c.names) {r:StepRes (std E N)} {m m':Nat} (h:RM.run s (aX P ctx o.dst T lo c) m=.ok (some r,m')):∃ as wr,r=.plain as wr∧Wn P n0 β σ s a w ctx o id as wr:=by
  unfold aX at h
  split at h
  case h_2=>cases zzc h
  rename_i e q e' d heT hd;obtain ⟨m1,h0⟩:=zzf h;cases hh:s.getH q with
  | none=>rw [hh] at h0;exact (zzb h0).elim
  | some en =>
    rw [hh] at h0;simp only at h0
    split at h0
    case h_2=>cases zzc h0
    rename_i hg;simp only [zzj,Bool.not_eq_true'] at hg;obtain ⟨hfz,hg1,hg2⟩:=hg;have he1:=AE.1 hg1;have he2:=AE.1 hg2;subst he2;obtain ⟨b,m2,h1,h2⟩:=zza h0;obtain ⟨b,rfl⟩:∃ j:Int,j=b:=⟨b,rfl⟩;have hr:=zzc h2;refine ⟨_,_,(Option.some.inj hr).symm,fun has=>?_⟩;have hb:decide (0≤b∧b≤((List.length en.l:Nat):Int)∧((List.length en.l:Nat):Int)≤((List.length en.l:Nat):Int))=true:=has _ zzl;have hb:=of_decide_eq_true hb;obtain ⟨k,hk⟩:=Wv hs hf h1;have hu:=QD heT
    rcases hs.M.H q en hh with ⟨t,ts,ht,hts,hrl,hm⟩ | hM
    case inr=>exact (hM.noSl (t:=T) (by rw [← he1];exact CL heT)).elim
    rw [← he1] at hts ht;have frn:FrOK s ([]:List (Nat×Option (HEnt (std E N)))):=fun n v hm=>by simp at hm
    have sub:=frn.sub (wr:={ hs:=[] }) rfl rfl;have run:∀ {av:Option Addr} {cap:Nat},a.eval x=.slice av en.l.length cap→en.l.length≤cap→(execOp a.eval o).run P w=.ok (.value (.slice (if cap=b.toNat then av else av.map (·.add (b.toNat * ts.length))) (en.l.length - b.toNat) (cap - b.toNat))) w:=by
      intro av cap hv hcp;refine Ci (x:=Instr.sliceAt T (a.eval x) (some (a.eval lo)) none none) (by simp [execOp,hop]) ?_;rw [hv,hk];have:=cm (w:=w) hu (.inr ⟨k,rfl⟩) (.inl ⟨rfl,rfl⟩) hts hcp hb.1 hb.2.1 (Int.le_refl _) (av:=av);simpa using this
    obtain ⟨_,hkk⟩:=hc;obtain ⟨_,ho⟩:=hkk en hh;have fin : ∀ {z : Value}, (execOp a.eval o).run P w = .ok (.value z) w → RelC P n0 β σ s w (.tail e q b : AC0 E N) z → ∃ z β' σ' w', ((execOp a.eval o).run P w = .ok (.value z) w' ∨ ((execOp a.eval o).run P w = .ok .skip w' ∧ z = undef)) ∧ Mem P n0 β' σ' (s.apply { hs := [] }) w' ∧ Ext P n0 (· = id) β σ s w β' σ' (s.apply { hs := [] }) w' ∧ Tidy a (· = id) s (s.apply { hs := [] }) ∧ ([] : List (Nat × Option (BEnt (std E N)))) = [] ∧
        ((∃ d' c,o.dst=some d'∧[(d,some (⟨ctx,one (.tail e q b:AC0 E N)⟩:TV (std E N)))]=[(d',some ⟨ctx,c⟩)]∧RelAV P n0 β' σ' (s.apply { hs:=[] }) w' c z∧∀ n,Fresh a s n→n≠id→n∉c.names)∨(o.dst=none∧[(d,some (⟨ctx,one (.tail e q b:AC0 E N)⟩:TV (std E N)))]=[])):=fun {z} h1 h2 =>
      ⟨z,β,σ,w,.inl h1,sub.mem hs.M,sub.ext P n0 _ β σ w,Tidy.of_sub frn.pre rfl rfl rfl _,rfl,.inl ⟨d,one _,hd,rfl,Aj ((sub.ext P n0 (fun _=>False) β σ w).relC (fun _ _ h=>h) h2),fun n hn _ hm=>hcn n hn (by simpa [AV.names,one,AH,AC.names] using hm)⟩⟩
    rcases ho with ⟨blk,cap,hsi,hva⟩ | ⟨hsi,hz,av0,hva⟩
    · rcases hm with ⟨hn,_⟩ | ⟨blk',cap',cells,el,hs',hheap,hel,hsz,hcap,hnw,u,hu1,hrep⟩
      · rw [hn] at hsi;cases hsi
      · rw [hs'] at hsi;cases hsi;refine fin (run hva hcap) ⟨hb.1,⟨T,CL heT,_,_,_,rfl⟩,fun h2 hh2=>?_⟩;rw [hh] at hh2;cases hh2;refine ⟨he1.symm,hb.2.1,_,_,rfl,?_⟩;have:=hb.2.1
        by_cases hq:en.l.length=b.toNat
        · exact .inl hq
        · refine .inr ⟨blk,cap,ts,hts,hs',?_⟩;rw [if_neg (by omega)];simp [Fu]
    · have hl0:en.l=[]:=List.length_eq_zero_iff.1 hz;refine fin (run (av:=av0) (cap:=0) (by rw [hva,hz]) (by omega)) ⟨hb.1,⟨T,CL heT,_,_,_,rfl⟩,fun h2 hh2=>?_⟩;rw [hh] at hh2;cases hh2;have:=hb.2.1;exact ⟨he1.symm,hb.2.1,_,_,rfl,.inl (by omega)⟩
theorem YV:∀ {ts:List TypeId} {cs:List (AC0 E N)},AX P ts cs=true→cs.length=ts.length
 | [],[],_=>rfl
 | [],_::_,h=>by simp [AX] at h
 | _::_,[],h=>by simp [AX] at h
 | t::ts,c::cs,h=>by
  simp only [AX] at h
  split at h
  ·simp [YV h]
  ·cases h
theorem xJ (hs : Sim P n0 nt β σ s a w) {ctx : List (Nat × Bool)} {id : Nat} {o : Oper} {T : TypeId} {x : Operand} (hop : o.op = .call ⟨.builtin .clear, #[x], #[T]⟩)
    {c:AC0 E N} (hc:RelC P n0 β σ s w c (a.eval x)) {r:StepRes (std E N)} {m m':Nat} (h:RM.run s (mK P o.dst T c) m=.ok (some r,m')):∃ as wr,r=.plain as wr∧Wn P n0 β σ s a w ctx o id as wr:=by
  unfold mK at h
  split at h
  case h_2=>exact (zzb h).elim
  rename_i e q i e' heT hd;obtain ⟨m1,h0⟩:=zzf h;cases hh:s.getH q with
  | none=>rw [hh] at h0;exact (zzb h0).elim
  | some en =>
    rw [hh] at h0;simp only at h0
    split at h0
    case h_2=>exact (zzb h0).elim
    rename_i z ts hz hts;obtain ⟨_,m2,h1,h2⟩:=zza h0;obtain ⟨⟨ls,fr,nw⟩,m3,h3,h4⟩:=zza h2;have hr:=zzc h4;have hg:=zzd h1;simp only [zzj,Bool.not_eq_true'] at hg;obtain ⟨⟨hfz,hg1,hg2⟩,hk,hsc⟩:=hg;have he1:=AE.1 hg1;have he2:=AE.1 hg2;subst he2;have hu:=QD heT;obtain ⟨hsz,hpos⟩:=Cw hts;obtain ⟨ti,v,hi',hiz,hzv,hrz,hnz,hoz⟩:=HF (n0:=n0) (β:=β) (σ:=σ) (s:=s) (w:=w) hz;obtain ⟨rfl,rfl⟩:=TE hsc h3;have frn:FrOK s ([]:List (Nat×Option (HEnt (std E N)))):=fun n v hm=>by simp at hm
    obtain ⟨_,_,hll,hlf⟩:=UK hs.M hrz.1 h3;have hk1:AX P ts z.cs=true:=by
      simp only [K4] at hk
      split at hk
      · assumption
      · cases hk
    have hzl:z.cs.length=ts.length:=YV hk1;have hvl:v.cells.size=ts.length:=by have:=RelCs.length hrz.1;simp at this;omega
    have htz:ti.size=ts.length:=by rw [← hsz];simp [Program.cellsOf,hi']
    obtain ⟨i,rfl⟩:∃ j:Int,j=i:=⟨i,rfl⟩;obtain ⟨i0,_,hkk⟩:=hc;obtain ⟨_,hin,av,cap,hva,hor⟩:=hkk en hh;have hin:i≤((List.length en.l:Nat):Int):=hin;have i0:(0:Int)≤i:=i0;have hiN:i.toNat≤en.l.length:=by omega
    rcases hs.M.H q en hh with ⟨t,ts2,ht,hts2,hrl,hm⟩ | hM
    case inr=>exact (hM.noSl (t:=T) (by rw [← he1];exact CL heT)).elim
    rw [← he1,hts] at hts2;cases hts2
    let zr:List PV:=ls.map Leaf.pv
    let nl:Rows:=en.l.take i.toNat++List.replicate (en.l.length - i.toNat) zr
    let hnew:HEnt (std E N):={ en with l:=nl,dirty:=true }
    have hnl:nl.length=en.l.length:=by simp [nl];omega
    have hlist:(std E N).ae ((std E N).aj en.l ((std E N).lit .i64 0) i) ((std E N).am ((std E N).l ((std E N).aj en.l i ((std E N).l en.l))) ls)=nl:=by
      show ((en.l.take i.toNat).drop (0:Int).toNat)++List.replicate ((((en.l.take ((en.l.length:Nat):Int).toNat).drop i.toNat).length:Nat):Int).toNat (ls.map Leaf.pv)=nl;simp [nl,zr]
    have hrr:r=.plain [] { hs:=[(q,some hnew)] }:=by
      have:=(Option.some.inj hr).symm;rw [this];show StepRes.plain [] { hs:=[(q,some { en with l:=(std E N).ae ((std E N).aj en.l ((std E N).lit .i64 0) i) ((std E N).am ((std E N).l ((std E N).aj en.l i ((std E N).l en.l))) ls),dirty:=true })] }=_;rw [hlist]
    refine ⟨_,_,hrr,fun has=>?_⟩;have hex:(execOp a.eval o)=(do pure (.value (← Builtin.clear_ #[T] o.type #[a.eval x]))):=by
      simp [execOp,hop,resolve,invoke,builtin]
    have hrowl:∀ r∈nl,r.length=ts.length:=fun r hr=>by
      rcases List.mem_append.1 hr with h | h
      · exact hrl r (List.mem_of_mem_take h)
      · rw [List.eq_of_mem_replicate h];simp [zr];omega
    by_cases hq:en.l.length=i.toNat
    ·
      have hne:nl=en.l:=by simp [nl,hq,List.take_of_length_le (Nat.le_of_eq hq)]
      have hrun:(Builtin.clear_ #[T] o.type #[a.eval x]).run P w=.ok (.tuple #[]) w:=by
        rw [hva,hq,Nat.sub_self];cases av<;>simp [Builtin.clear_,run_underlying hu]
      obtain ⟨q1,q2,q3⟩:=lF (a:=a) hs.M hh hfz (h:=hnew) (wr:={ hs:=[(q,some hnew)] }) (w':=w) rfl rfl rfl rfl hfz rfl (fun _=>hnl) rfl rfl rfl rfl (fun _ _=>rfl)
        (fun x=>by
          rcases hs.M.H q en hh with ⟨t,ts,a1,a2,a3,a4⟩ | hM
          case inr=>exact (hM.noSl (t:=T) (by rw [← he1];exact CL heT)).elim
          refine .inl ⟨t,ts,a1,a2,by show ∀ r∈nl,_;rw [hne];exact a3,?_⟩
          rcases a4 with ⟨b1,b2⟩ | ⟨blk,cap,cells,el,b1,b2,b3,b4,b5,b6,vv,b7,b8⟩
          · exact .inl ⟨b1,by show nl=_;rw [hne];exact b2⟩
          · refine .inr ⟨blk,cap,cells,el,b1,b2,b3,b4,by show nl.length≤_;rw [hne];exact b5,b6,vv,by show ∀ i j,i<nl.length→_;rw [hne];exact b7,fun i j t' h1 h2=>?_⟩;show Rep P w _ t' (vv i j) (AF nl i j);rw [hne];exact x.rep (b8 i j t' (by have h1:i<nl.length:=h1;rwa [hne] at h1) h2))
      exact ⟨.tuple #[],β,σ,w,.inl (by rw [hex];simp [hrun]),q1,q2.weaken (fun _ h=>h.elim),q3.weaken (fun _ h=>h.elim),rfl,.inr ⟨hd,rfl⟩⟩
    · rcases hor with hor | ⟨blk,cap2,ts3,hts3,hsq,hav⟩
      · exact (hq hor).elim
      · rw [hts] at hts3;cases hts3
        rcases hm with ⟨hn,_⟩ | ⟨blk',cap',cells,el,hs',hheap,hel,hsz2,hcap,hnw,u,hu1,hrep⟩
        · rw [hn] at hsq;cases hsq
        · rw [hs'] at hsq;cases hsq
          let n:=en.l.length - i.toNat
          have hnpos:0<n:=by show 0<en.l.length - i.toNat;omega
          let us:List Value:=(Builtin.zeroCells v.cells n).toList
          have husl:us.length=n * ts.length:=by simp [us,size_zeroCells,hvl]
          have hget:∀ k,k<n * ts.length→us[k]?=v.cells[k % ts.length]?:=fun k hk=>by
            have h1:k<(Builtin.zeroCells v.cells n).size:=by rw [size_zeroCells,hvl];exact hk
            simp only [us,Array.getElem?_toList];rw [Array.getElem?_eq_getElem h1];simp only [Builtin.zeroCells,Array.getElem_map,Array.getElem_range,hvl];rw [Array.getElem?_eq_getElem (by rw [hvl];exact Nat.mod_lt _ hpos)];simp [Nat.mod_lt _ hpos,hvl]
          have hone:∀ x∈us,x.oneCell'=true:=fun x hx=>by
            obtain ⟨k,hk⟩:=List.getElem?_of_mem hx;have hklt:k<n * ts.length:=by rw [← husl];exact (List.getElem?_eq_some_iff.1 hk).1
            rw [hget k hklt] at hk;exact hrz.1.one x (by rw [Array.mem_toList_iff];exact Array.mem_of_getElem? hk)
          have hle:i.toNat * ts.length+us.length≤cells.size:=by
            rw [husl,hsz2,← Nat.add_mul];exact Nat.mul_le_mul_right _ (by show i.toNat+(en.l.length - i.toNat)≤cap2;omega)
          have hst:=run_storeCells_at (P:=P) blk (i.toNat * ts.length) el us 0 cells w hheap (by simpa using hle) hone
          let w2:=w.setRow blk (laid cells (i.toNat * ts.length) us)
          have hrun:(Builtin.clear_ #[T] o.type #[a.eval x]).run P w=.ok (.tuple #[]) w2:=by
            rw [hva,hav];obtain ⟨n',hn'⟩:∃ n',en.l.length - i.toNat=n'+1:=⟨en.l.length - i.toNat - 1,by omega⟩;have hst2:(storeCells ⟨blk,i.toNat * ts.length,none⟩ (Builtin.zeroCells v.cells (n'+1)).toList).run P w=.ok () w2:=by
              have:us=(Builtin.zeroCells v.cells (n'+1)).toList:=by show (Builtin.zeroCells v.cells (en.l.length - i.toNat)).toList=_;rw [hn']
              rw [← this];simpa [w2,laid,List.append_assoc] using hst
            rw [hn'];simp [Builtin.clear_,run_underlying hu,hzv,hst2]
          have hpl:∀ i' j,i'<i.toNat→AF nl i' j=AF en.l i' j:=fun i' j h=>by
            simp only [AF,AB,List.getD,nl];rw [List.getElem?_append_left (by rw [List.length_take];omega),List.getElem?_take,if_pos h]
          have hpr:∀ i' j,i.toNat≤i'→i'<en.l.length→AF nl i' j=AA zr j:=fun i' j h1 h2=>by
            simp only [AF,AB,List.getD,nl];rw [List.getElem?_append_right (by rw [List.length_take];omega)];rw [List.length_take,List.getElem?_replicate,if_pos (by omega)];rfl
          have hs1:∀ b,(∀ cap,σ q≠some (b,cap))→w2.heap[b]?=w.heap[b]?:=fun b hb=>setRow_other w blk b _ (fun e=>hb cap2 (e▸hs'))
          obtain ⟨q1,q2,q3⟩:=lF (a:=a) hs.M hh hfz (h:=hnew) (wr:={ hs:=[(q,some hnew)] }) (w':=w2) rfl rfl rfl rfl hfz rfl (fun _=>hnl) rfl rfl rfl (by simp [w2]) hs1
            (fun xx=>by
              refine .inl ⟨t,ts,ht,by rw [← hts,he1],hrowl,.inr ⟨blk,cap2,laid cells (i.toNat * ts.length) us,el,hs',setRow_heap w blk cells _ _ _ hheap,hel,by rw [ku hle];exact hsz2,by show nl.length≤cap2;rw [hnl];exact hcap,hnw,
                fun i' j=>if i.toNat≤i' then v.cells.getD j undef else u i' j,fun i' j hi' hj=>?_,fun i' j t' hi' hj=>?_⟩⟩
              · have hi2:i'<en.l.length:=by have:i'<nl.length:=hi';omega
                rw [mX hle]
                by_cases hc:i.toNat≤i'
                · have h1:i.toNat * ts.length≤i' * ts.length:=Nat.mul_le_mul_right _ hc;have h2:i' * ts.length+j<i.toNat * ts.length+us.length:=by
                    rw [husl,← Nat.add_mul];have:(i'+1) * ts.length≤(i.toNat+n) * ts.length:=Nat.mul_le_mul_right _ (by show i'+1≤i.toNat+(en.l.length - i.toNat);omega);rw [Nat.add_mul,Nat.one_mul] at this;omega
                  rw [if_pos ⟨by omega,h2⟩];simp only [hc,if_true];have e2:i' * ts.length+j - i.toNat * ts.length=(i' - i.toNat) * ts.length+j:=by rw [Nat.sub_mul];omega
                  have h3:(i' - i.toNat) * ts.length+j<n * ts.length:=by
                    have:(i' - i.toNat+1) * ts.length≤n * ts.length:=Nat.mul_le_mul_right _ (by show i' - i.toNat+1≤en.l.length - i.toNat;omega);rw [Nat.add_mul,Nat.one_mul] at this;omega
                  rw [e2,hget _ h3,Nat.add_comm,Nat.mul_comm,Nat.add_mul_mod_self_left,Nat.mod_eq_of_lt hj];simp [hvl,hj]
                · have h1:(i'+1) * ts.length≤i.toNat * ts.length:=Nat.mul_le_mul_right _ (by omega);rw [Nat.add_mul,Nat.one_mul] at h1;rw [if_neg (by omega)];simp only [hc,if_false];exact hu1 i' j hi2 hj
              · have hi2:i'<en.l.length:=by have:i'<nl.length:=hi';omega
                have hj':j<ts.length:=(List.getElem?_eq_some_iff.1 hj).1;show Rep P w2 _ t' (if i.toNat≤i' then v.cells.getD j undef else u i' j) (AF nl i' j)
                by_cases hc:i.toNat≤i'
                · rw [if_pos hc,hpr i' j hc hi2];have:=hlf ts (s.apply { hs:=[] }) hk1 (frn.sub rfl rfl) (frn.frz rfl) true (fun h=>h) j t' (v.cells.getD j undef) hj (by simp [hvl,hj']);have hgo:Rep P w (StB n0 β σ s hnew.nw) t' (v.cells.getD j undef) (AA zr j):=by
                    refine Rep.mono (w':=w) (St':=StB n0 β σ s hnew.nw) this (fun b _ hlt=>⟨.inl rfl,hlt⟩) (fun b hb hlt=>?_);refine ⟨fun hm=>hb.1 ?_,hb.2.mono (fun _=>rfl)⟩
                    rcases hm with ⟨n,e,he,hb⟩ | ⟨n,e,cap3,he,hf,hb⟩
                    · exact .inl ⟨n,e,by rw [State.getB_apply0 s _ rfl];exact he,hb⟩
                    · exact .inr ⟨n,e,cap3,by rw [State.getH_apply0 s _ rfl];exact he,hf,hb⟩
                  exact xx.rep hgo
                · rw [if_neg hc,hpl i' j (by omega)];exact xx.rep (hrep i' j t' hi2 hj))
          exact ⟨.tuple #[],β,σ,w2,.inl (by rw [hex];simp [hrun]),q1,q2.weaken (fun _ h=>h.elim),q3.weaken (fun _ h=>h.elim),rfl,.inr ⟨hd,rfl⟩⟩
theorem tx {cfg:Cfg} {o:Oper} {sp:Spec} (h:Qs cfg o.op=some sp):0<BV P o:=by
 unfold Qs at h
 split at h
 all_goals first | (rename_i hop;unfold BV;rw [hop];exact Nat.one_pos) | (rename_i hop;unfold BV;rw [hop];exact Nat.succ_pos 15) | cases h
theorem ux (hs : Sim P n0 nt β σ s a w) {ctx : List (Nat × Bool)} (hf : Facts a ctx) {id : Nat} {o : Oper} {args : Array Operand} {tys : Array TypeId} {x y : Operand} {T U : TypeId}
    (ho:o.op=.call ⟨.builtin .append,args,tys⟩) (ha:args.toList=[x,y]) (ht:tys.toList=[T,U]) {r:StepRes (std E N)} {m m':Nat}
    (h:RM.run s (RF P ctx id o.dst (.qapp T U x y)) m=.ok (some r,m')):∃ as wr,r=.plain as wr∧Wn P n0 β σ s a w ctx o id as wr:=by
  unfold RF at h;simp only at h
  split at h
  case h_2=>cases zzc h
  obtain ⟨c,m1,h1,h2⟩:=zza h;obtain ⟨b,m2,h3,h4⟩:=zza h2;unfold nv at h4
  split at h4
  case h_2=>cases zzc h4
  rename_i e d n q mm he hd
  split at h4
  case h_2=>exact (zzb h4).elim
  rename_i ti zz hi hz;obtain ⟨m3,h5⟩:=zzg h4;cases hq:s.getB q with
  | none=>rw [hq] at h5;exact (zzb h5).elim
  | some en =>
    rw [hq] at h5;obtain ⟨_,m4,h6,h7⟩:=zza h5;have hg:=zzd h6;simp only [zzj] at hg;have hTU:=AE.1 hg.1.1;subst hTU;refine ⟨_,_,(Option.some.inj (zzc h7)).symm,fun has=>?_⟩;obtain ⟨z,w',r1,r2,r3,r4⟩:=xQ hs (ty:=o.type) he hi hz (AE.1 hg.1.2) (C5 hs hf h1).1 (C5 hs hf h3).1 hq (Nat.le_of_ble_eq_true hg.2.1) (Bv.1 hg.2.2.1) (Nat.le_of_ble_eq_true hg.2.2.2)
      (has _ zzl) (has _ (zzm _ zzl))
    have ha':args=#[x,y]:=by apply Array.ext';simpa using ha
    have ht':tys=#[T,T]:=by apply Array.ext';simpa using ht
    subst ha';subst ht';have hex:execOp a.eval o=(do pure (.value (← Builtin.append_ #[T,T] o.type #[a.eval x,a.eval y]))):=by simp [execOp,ho,resolve,invoke,builtin]
    have frn:FrOK s ([]:List (Nat×Option (HEnt (std E N)))):=fun n v hm=>by simp at hm
    have sub:=frn.sub (wr:={ hs:=[] }) rfl rfl;have xs:=sub.ext P n0 (fun _=>False) β σ w';exact ⟨z,β,σ,w',.inl (LG hex r1),sub.mem r2,(r3.trans xs).weaken (fun _ h=>(h.elim (fun h=>h) (fun h=>h)).elim),Tidy.of_sub frn.pre rfl rfl rfl _,rfl,
      .inl ⟨d,_,hd,rfl,Aj ⟨T,(aK he).2.1,xs.rep r4⟩,fun n _ hn=>by simp [AV.names,one,AH,AC.names]⟩⟩
theorem tg {cfg : Cfg} (hs : Sim P n0 nt β σ s a w) {ctx : List (Nat × Bool)} (hf : Facts a ctx) {id : Nat} (hid : Fresh a s id) {o : Oper} {sp : Spec} (hop : Qs cfg o.op = some sp) (hnb : ∀ b x r, sp ≠ .bld b x r)
    {r:StepRes (std E N)} {m m':Nat} (h:RM.run s (RF P ctx id o.dst sp) m=.ok (some r,m')):∃ as wr,r=.plain as wr∧Wn P n0 β σ s a w ctx o id as wr:=by
  unfold Qs at hop
  split at hop
  · rename_i T x lo hi ho
    split at hop
    · rename_i hg;cases hop;simp only [zzj] at hg;obtain ⟨c,m1,h1,h2⟩:=zza h;exact wG hs hf hid ho hg.2 (C5 hs hf h1).1 h2
    · cases hop
  · rename_i T x lo ho
    split at hop
    · cases hop;obtain ⟨c,m1,h1,h2⟩:=zza h;obtain ⟨e1,_,e2⟩:=C5 hs hf h1;exact uQ hs hf ho e1 e2 h2
    · cases hop
  · rename_i args tys ho
    split at hop
    · rename_i x T ha ht;cases hop;obtain ⟨c,m1,h1,h2⟩:=zza h;have ha':args=#[x]:=by apply Array.ext';simpa using ha
      have ht':tys=#[T]:=by apply Array.ext';simpa using ht
      subst ha';subst ht';exact xJ hs ho (C5 hs hf h1).1 h2
    · cases hop
  · split at hop
    · cases hop;exact (hnb _ _ _ rfl).elim
    · cases hop
  · rename_i args tys ho
    split at hop
    · rename_i x y T U ha ht;cases hop;exact ux hs hf ho ha ht h
    · cases hop
  · cases hop
theorem vZ {cfg : Cfg} (hB : ∀ b ∈ cfg.bld, VZ P b) (hs : Sim P n0 nt β σ s a w) {ctx : List (Nat × Bool)} (hf : Facts a ctx) {id : Nat} (hid : Fresh a s id) {o : Oper} {sp : Spec} (hop : Qs cfg o.op = some sp)
    {r:StepRes (std E N)} {m m':Nat} (h:RM.run s (RF P ctx id o.dst sp) m=.ok (some r,m')):∃ as wr,r=.plain as wr∧(Wn P n0 β σ s a w ctx o id as wr∨o7 P n0 β σ s a w ctx o id as wr):=by
  by_cases hnb:∀ b x r,sp≠.bld b x r
  · obtain ⟨as,wr,h1,h2⟩:=tg hs hf hid hop hnb h;exact ⟨as,wr,h1,.inl h2⟩
  · have : ∃ b x r, sp = .bld b x r := by
      cases sp<;>first | exact ⟨_,_,_,rfl⟩ | exact (hnb fun _ _ _ e=>by cases e).elim
    obtain ⟨b,x,rs,rfl⟩:=this;unfold Qs at hop
    split at hop
    all_goals first | (split at hop<;>cases hop;done) | (cases hop;done) | skip
    rename_i f args tys ho
    split at hop
    case h_2=>cases hop
    rename_i b' x' r' hb ha;cases hop;obtain ⟨hm,hbf⟩:=mf hb;obtain ⟨c,m1,h1,h2⟩:=zza h;subst hbf;obtain ⟨as,wr,h3,h4⟩:=w8 hs hf hid (hB b hm) ha ho (C5 hs hf h1).1 h2;exact ⟨as,wr,h3,.inr h4⟩
theorem Og {cfg : Cfg} {ctx : List (Nat × Bool)} {g : Option Bool} {o : Oper} {id : Nat} {r : StepRes (std E N)} {m m' : Nat}
    (h:RM.run s (xa P cfg ctx g o id) m=.ok (r,m')) :
    (∃ sp m1,g=none∧Qs cfg o.op=some sp∧RM.run s (RF P ctx id o.dst sp) m=.ok (some r,m1))∨∃ m1,RM.run s (Xv P cfg ctx g o id) m1=.ok (r,m'):=by
  unfold xa at h
  split at h
  · rename_i sp hsp;obtain ⟨x,m1,h1,h2⟩:=zza h;cases x with
    | some r' =>
      have:=zzc h2;subst this;exact .inl ⟨sp,m1,rfl,hsp,h1⟩
    | none=>exact .inr ⟨m1,h2⟩
  · exact .inr ⟨m,h⟩
theorem T4 {ctx:List (Nat×Bool)} {id:Nat} {d:Option Nat} {sp:Spec} {r:StepRes (std E N)} {m m':Nat} (h:RM.run s (RF P ctx id d sp) m=.ok (some r,m')):∃ as wr,r=.plain as wr:=by
 have take:∀ {T:TypeId} {hi:Operand} {c:AC0 E N} {m:Nat},RM.run s (Zb P ctx id d T hi c) m=.ok (some r,m')→∃ as wr,r=.plain as wr:=fun {T hi c m} h=>by
  unfold Zb at h
  split at h
  ·obtain ⟨m1,h0⟩:=zzf h
   split at h0
   ·split at h0
    ·obtain ⟨b,m2,h1,h2⟩:=zza h0;exact ⟨_,_,(Option.some.inj (zzc h2)).symm⟩
    ·cases zzc h0
   ·exact (zzb h0).elim
  ·cases zzc h
 have tail:∀ {T:TypeId} {lo:Operand} {c:AC0 E N} {m:Nat},RM.run s (aX P ctx d T lo c) m=.ok (some r,m')→∃ as wr,r=.plain as wr:=fun {T lo c m} h=>by
  unfold aX at h
  split at h
  ·obtain ⟨m1,h0⟩:=zzf h
   split at h0
   ·split at h0
    ·obtain ⟨b,m2,h1,h2⟩:=zza h0;exact ⟨_,_,(Option.some.inj (zzc h2)).symm⟩
    ·cases zzc h0
   ·exact (zzb h0).elim
  ·cases zzc h
 cases sp with
 | qapp T U x y =>
  unfold RF at h;simp only at h
  split at h
  case h_2=>cases zzc h
  obtain ⟨_,_,_,h⟩:=zza h;obtain ⟨_,_,_,h⟩:=zza h;unfold nv at h
  split at h
  case h_2=>cases zzc h
  split at h
  case h_2=>exact (zzb h).elim
  obtain ⟨_,h⟩:=zzg h
  split at h
  ·obtain ⟨_,_,_,h⟩:=zza h;exact ⟨_,_,(Option.some.inj (zzc h)).symm⟩
  ·exact (zzb h).elim
 | take T x hi=>obtain ⟨c,m1,h1,h2⟩:=zza h;exact take h2
 | tail T x lo=>obtain ⟨c,m1,h1,h2⟩:=zza h;exact tail h2
 | clr T x =>
  obtain ⟨c,m1,h1,h2⟩:=zza h;unfold mK at h2
  split at h2
  ·obtain ⟨m1,h0⟩:=zzf h2
   split at h0
   ·split at h0
    ·obtain ⟨_,m2,h3,h4⟩:=zza h0;obtain ⟨_,m3,h5,h6⟩:=zza h4;exact ⟨_,_,(Option.some.inj (zzc h6)).symm⟩
    ·exact (zzb h0).elim
   ·exact (zzb h0).elim
  ·exact (zzb h2).elim
 | bld b x rs =>
  obtain ⟨c,m1,h1,h2⟩:=zza h;have wri:∀ {d:Nat} {new:Rows} {v:AV (std E N)} {m:Nat},RM.run s (mO P ctx id d b c new v) m=.ok (some r,m')→∃ as wr,r=.plain as wr:=fun {d new v m} h=>by
   obtain ⟨⟨n,l,nw,g⟩,m2,h3,h4⟩:=zza h;exact ⟨_,_,(Option.some.inj (zzc h4)).symm⟩
  unfold mP at h2
  split at h2
  ·exact (zzb h2).elim
  ·obtain ⟨_,m2,h3,h4⟩:=zza h2
   split at h4
   ·obtain ⟨_,m3,h5,h6⟩:=zza h4
    split at h6
    ·exact wri h6
    ·exact (zzb h6).elim
   ·obtain ⟨_,m3,h5,h6⟩:=zza h4
    split at h6
    ·exact wri h6
    ·exact (zzb h6).elim
   ·obtain ⟨⟨n,l,nw,g⟩,m3,h5,h6⟩:=zza h4;exact ⟨_,_,(Option.some.inj (zzc h6)).symm⟩
   ·exact (zzb h4).elim
end
end Go.Px
end
