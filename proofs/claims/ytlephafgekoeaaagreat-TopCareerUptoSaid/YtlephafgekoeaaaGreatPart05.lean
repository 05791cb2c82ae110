/- Part 5. -/
import Derived.Test.YtlephafgekoeaaaGreatPart04
import Derived.Test.YtlephafgekoeaaaGreatPart02
import Derived.MapKept
set_option linter.unusedVariables false
set_option linter.unusedSimpArgs false
section
namespace Go.Px
section
variable {E:Env} {N:Nat} {P:Program} {n0 n0':Nz} {nt:Nat} {β β':Nat→Option Nat} {σ σ':Nat→Option (Nat×Nat)} {s s':St0 E N} {a:Act} {w w':World}
def Row:Nat→List (Nat×HEnt (std E N))→Prop
 |_,[]=>True
 |q,(k,h)::r=>k=q∧Row (q+1) r
theorem Row.append:∀{q:Nat} {r r':List (Nat×HEnt (std E N))},Row q r→Row (q+r.length) r'→Row q (r++r')
 |_,[],_,_,h=>by trivial
 |q,(k,h')::r,_,h,h2=>⟨h.1,Row.append h.2 (by grind)⟩
theorem Row.mem:∀{q:Nat} {r:List (Nat×HEnt (std E N))},Row q r→∀p∈r,q≤p.1∧p.1<q+r.length
 |q,(k,h')::r,h,p,hp=>by
  rcases List.mem_cons.1 hp with rfl|hp
  ·have:=h.1;simp_all
  have:=Row.mem h.2 p hp;simp;omega
theorem Row.get:∀{q:Nat} {r:List (Nat×HEnt (std E N))},Row q r→∀{n:Nat} {h:HEnt (std E N)},AL r n=some h→(n,h)∈r
 |q,(k,h')::r,hr,n,h,hg=>by
  simp only[AL]at hg
  split at hg
  ·simp_all
  exact zzm _ (Row.get hr.2 hg)
theorem Row.has:∀{q:Nat} {r:List (Nat×HEnt (std E N))},Row q r→∀{n:Nat} {h:HEnt (std E N)},(n,h)∈r→AL r n=some h
 |q,(k,h')::r,hr,n,h,hg=>by
  simp only[AL]
  rcases List.mem_cons.1 hg with e|hg
  ·simp_all
  have h1:=Row.mem hr.2 _ hg;have h2:=hr.1;have:Nat.beq k n=false:=by
   cases hb:Nat.beq k n
   ·rfl
   have:=AG.1 hb;omega
  rw[this];exact Row.has hr.2 hg
theorem Row.at:∀{q:Nat} {r:List (Nat×HEnt (std E N))},Row q r→∀{n:Nat},q≤n→n<q+r.length→∃h,(n,h)∈r
 |q,[],_,n,h1,h2=>by grind
 |q,(k,h')::r,hr,n,h1,h2=>by
  by_cases h:n=q
  ·exact⟨h',by rw[h,←hr.1];simp_all⟩
  obtain⟨h3,h4⟩:=Row.at hr.2 (n:=n) (by omega) (by grind)
  grind
theorem Ents.row:∀{q:Nat} {os:List (Option Nat)} {r:List (Nat×HEnt (std E N))},Ents P s q os r→Row q r
 |_,[],[],_=>trivial
 |_,_::_,(_,_)::_,h=>⟨h.1,Ents.row h.2.2.2⟩
 |_,[],_::_,h=>h.elim
 |_,_::_,[],h=>h.elim
theorem Ents.find:∀{q:Nat} {os:List (Option Nat)} {r:List (Nat×HEnt (std E N))},Ents P s q os r→∀{n:Nat} {h:HEnt (std E N)},(n,h)∈r→∃i o,n=q+i∧os[i]?=some o∧vq P s h o∧h.frozen=false
 |q,o::os,(k,h')::r,he,n,h,hm=>by
  rcases List.mem_cons.1 hm with e|hm
  ·cases e;exact⟨0,o,he.1,rfl,he.2.2.1,he.2.1⟩
  obtain⟨i,o',h1,h2,h3⟩:=Ents.find he.2.2.2 hm;exact⟨i+1,o',by omega,h2,h3⟩
 |_,[],_::_,h,_,_,_=>h.elim
theorem Xy {σc:Nat→Option (Nat×Nat)} {s0:St0 E N}:∀ {q:Nat} {os:List (Option Nat)} {r:List (Nat×HEnt (std E N))},
    (∀i o p,os[i]?=some o→r[i]?=some p→σc (q+i)=o.bind σ∧s0.getH (q+i)=some p.2)→Wired σ σc s0 q os r
  | q,o::os,(k,h')::r,h=>⟨(h 0 o _ rfl rfl).1,(h 0 o _ rfl rfl).2,Xy (fun i o' p h1 h2=>by
      have:=h (i+1) o' p (by trivial) (by trivial)
      grind)⟩
  |_,[],_,_=>by trivial
  |_,_::_,[],_=>by trivial
theorem Row.idx:∀{q:Nat} {r:List (Nat×HEnt (std E N))},Row q r→∀{i:Nat} {p:Nat×HEnt (std E N)},r[i]?=some p→p.1=q+i
 |q,(k,h')::r,hr,0,p,h=>by simp at h;subst h;exact hr.1
 |q,(k,h')::r,hr,i+1,p,h=>by have:=Row.idx hr.2 (i:=i) (by trivial);omega
theorem Uv:∀{os:List (Option Nat)} {i j x:Nat},(os.filterMap id).Nodup→os[i]?=some (some x)→os[j]?=some (some x)→i=j
 |o::os,i,j,x,hn,hi,hj=>by
  have mem:∀{k:Nat},os[k]?=some (some x)→x∈os.filterMap id:=fun {k} h=>by
   simp only[List.mem_filterMap];exact⟨some x,List.mem_of_getElem? h,rfl⟩
  cases o with
  |none =>
   have hn':(os.filterMap id).Nodup:=by trivial
   cases i with
   |zero=>simp at hi
   |succ i=>cases j with
    |zero=>simp at hj
    |succ j=>rw[Uv hn' (i:=i) (j:=j) (by trivial) (by trivial)]
  |some y =>
   have hn':(y::os.filterMap id).Nodup:=by trivial
   obtain⟨h1,h2⟩:=List.nodup_cons.1 hn';cases i with
   |zero=>grind
   |succ i=>cases j with
    |zero=>simp_all
    |succ j=>rw[Uv h2 (i:=i) (j:=j) (by trivial) (by trivial)]
def OkC (q len:Nat) (nw:Bool):AC0 E N→Prop
 | .int _ _ | .bool _ | .str _=>True
 | .imm _ n _ | .opq n _=>n=nw
 | .own _ k=>q≤k∧k<q+len
 |_=>False
theorem OkC.wide {q len q' len':Nat} {nw:Bool} {c:AC0 E N} (h:OkC q len nw c) (h1:q'≤q) (h2:q+len≤q'+len'):OkC q' len' nw c:=by
 cases c<;>first|exact h|(obtain⟨a,b⟩:=h;exact⟨by omega,by omega⟩)
def OkH (nw:Bool) (hs:List (Nat×HEnt (std E N))):Prop:=∀p∈hs,p.2.nw=nw∧p.2.frozen=false∧p.2.dirty=true
theorem Ri {own:Nat→Bool} {nw:Bool} {c:List PV}:∀ {ts:List TypeId} {j q:Nat} {cs:List (AC0 E N)} {hs:List (Nat×HEnt (std E N))},A0 (O:=std E N) P own nw c j q ts=some (cs,hs) →
    Row q hs∧OkH nw hs∧∀x∈cs,OkC q hs.length nw x
  | [],j,q,cs,hs,h=>by
    simp only[A0]at h;cases h;exact⟨trivial,fun p hp=>by simp at hp,fun x hx=>by simp at hx⟩
  |t::ts,j,q,cs,hs,h=>by
    have plain:∀(x:AC0 E N),(∀len,OkC q len nw x)→(A0 (O:=std E N) P own nw c (j+1) q ts).map (fun p=>(x::p.1,p.2))=some (cs,hs)→Row q hs∧OkH nw hs∧∀x∈cs,OkC q hs.length nw x:=fun x hx h=>by
      obtain⟨⟨r,hh⟩,h1,h2⟩:=zzo.1 h;cases h2;obtain⟨a1,a2,a3⟩:=Ri h1
      simp_all
    simp only[A0]at h
    split at h
    · exact plain (.int _ _) (fun _=>trivial) h
    · exact plain (.bool _) (fun _=>trivial) h
    · exact plain (.str _) (fun _=>trivial) h
    · split at h
      · obtain⟨⟨r,hh⟩,h1,h2⟩:=zzo.1 h;cases h2;obtain⟨a1,a2,a3⟩:=Ri h1;refine⟨⟨rfl,a1⟩,fun p hp=>?_,fun y hy=>?_⟩
        · rcases List.mem_cons.1 hp with rfl|hp
          · trivial
          exact a2 p hp
        rcases List.mem_cons.1 hy with rfl|hy
        · exact⟨Nat.le_refl _,by simp⟩
        exact(a3 y hy).wide (by omega) (by simp;omega)
      exact plain (.imm _ nw _) (fun _=>rfl) h
    · exact plain (.opq nw _) (fun _=>rfl) h
    cases h
theorem T4 {own:Nat→Bool} {nw:Bool} {c:List PV}:∀ {ts:List TypeId} {j q:Nat} {vs:List (Val (std E N))} {hs:List (Nat×HEnt (std E N))},Br (O:=std E N) P own nw c j q ts=some (vs,hs) →
    Row q hs∧OkH nw hs∧∀v∈vs,∀x∈v.cs,OkC q hs.length nw x
  | [],j,q,vs,hs,h=>by
    simp only[Br]at h;cases h;exact⟨trivial,fun p hp=>by simp at hp,fun x hx=>by simp at hx⟩
  |t::ts,j,q,vs,hs,h=>by
    simp only[Br]at h
    split at h
    · cases h
    split at h
    · cases h
    rename_i cs h1 hc
    split at h
    · cases h
    rename_i vs2 h2 hv;cases h;obtain⟨a1,a2,a3⟩:=Ri hc;obtain⟨b1,b2,b3⟩:=T4 hv;refine⟨a1.append b1,fun p hp=>(List.mem_append.1 hp).elim (a2 p) (b2 p),fun v hv x hx=>?_⟩
    rcases List.mem_cons.1 hv with rfl|hv
    · exact(a3 x hx).wide (Nat.le_refl _) (by simp)
    exact(b3 v hv x hx).wide (by omega) (by simp;omega)
theorem dF {u:List Nat}:∀{fr:List (Nat×Option (HEnt (std E N)))},ij u fr=true→∀x∈fr,x.1∉u
 | [],_,x,hx=>by simp at hx
 |(n,v)::r,h,x,hx=>by
  simp only[ij,zzj,Bool.not_eq_true']at h
  rcases List.mem_cons.1 hx with rfl|hx
  ·intro hm;have:=Cd.2 hm;simp_all
  exact dF h.2 x hx
end
section
variable {E:Env} {N:Nat} {P:Program} {n0 n0':Nz} {nt:Nat} {β β':Nat→Option Nat} {σ σ':Nat→Option (Nat×Nat)} {s s':St0 E N} {a:Act} {w w':World}
theorem RelC.moved {n0c:Nz} {σ1:Nat→Option (Nat×Nat)} {s1 s2:St0 E N} {q len:Nat} {nw:Bool} {c:AC0 E N} {v:Value} (hc:OkC q len nw c) (h:RelC P n0c noB σ1 s1 w c v)
    (hσ:∀n,q≤n→n<q+len→σ' n=σ1 n∧s2.getH n=s1.getH n) (hst:∀b,StB n0c noB σ1 s1 nw b→StB n0 β σ' s2 nw b):RelC P n0 β σ' s2 w c v:=by
  cases c with
  |int k i=>exact h
  |bool b=>exact h
  |str x=>exact h
  |imm e n l =>
    have:n=nw:=hc;subst this;obtain⟨t,ht,hr⟩:=h;exact⟨t,ht,hr.st hst⟩
  |own e id =>
    obtain⟨h1,h2⟩:=h;obtain⟨e1,e2⟩:=hσ id hc.1 hc.2;refine⟨h1,fun h3 hh3=>?_⟩;rw[e2]at hh3;obtain⟨a1,a2⟩:=h2 h3 hh3;refine⟨a1,?_⟩;unfold qT at a2⊢
    simp_all
  |opq n l =>
    have:n=nw:=hc;subst this;obtain⟨t,ht,hr⟩:=h;exact⟨t,ht,hr.st hst⟩
  |_=>trivial
theorem RelCs.moved {n0c:Nz} {σ1:Nat→Option (Nat×Nat)} {s1 s2:St0 E N} {q len:Nat} {nw:Bool} (hσ:∀ n,q≤n→n<q+len→σ' n=σ1 n∧s2.getH n=s1.getH n) (hst:∀ b,StB n0c noB σ1 s1 nw b→StB n0 β σ' s2 nw b) :
    ∀{cs:List (AC0 E N)} {vs:List Value},(∀x∈cs,OkC q len nw x)→RelCs P n0c noB σ1 s1 w cs vs→RelCs P n0 β σ' s2 w cs vs
  | [],[],_,h=>h
  |c::cs,v::vs,hc,h=>⟨RelC.moved (hc c zzl) h.1 hσ hst,RelCs.moved hσ hst (fun x hx=>hc x (zzm _ hx)) h.2⟩
  | [],_::_,_,h=>h.elim
  |_::_,[],_,h=>h.elim
theorem RelVals.moved {n0c:Nz} {σ1:Nat→Option (Nat×Nat)} {s1 s2:St0 E N} {q len:Nat} {nw:Bool} (hσ:∀ n,q≤n→n<q+len→σ' n=σ1 n∧s2.getH n=s1.getH n) (hst:∀ b,StB n0c noB σ1 s1 nw b→StB n0 β σ' s2 nw b) :
    ∀{cs:List (Val (std E N))} {vs:List Value},(∀v∈cs,∀x∈v.cs,OkC q len nw x)→RelVals P n0c noB σ1 s1 w cs vs→RelVals P n0 β σ' s2 w cs vs
  | [],[],_,h=>h
  |c::cs,v::vs,hc,h=>⟨⟨RelCs.moved hσ hst (hc c zzl) h.1.1,h.1.2⟩,RelVals.moved hσ hst (fun x hx=>hc x (zzm _ hx)) h.2⟩
  | [],_::_,_,h=>h.elim
  |_::_,[],_,h=>h.elim
theorem RelAV.moved {n0c:Nz} {σ1:Nat→Option (Nat×Nat)} {s1 s2:St0 E N} {q len:Nat} {nw:Bool} (hσ:∀ n,q≤n→n<q+len→σ' n=σ1 n∧s2.getH n=s1.getH n) (hst:∀ b,StB n0c noB σ1 s1 nw b→StB n0 β σ' s2 nw b)
    {vs:List (Val (std E N))} {v:Value} (hc:∀v∈vs,∀x∈v.cs,OkC q len nw x) (h:RelAV P n0c noB σ1 s1 w (LI vs) v):RelAV P n0 β σ' s2 w (LI vs) v:=by
  match vs,hc,h with
  | [x],hc,h=>exact⟨RelCs.moved hσ hst (hc x zzl) h.1,h.2⟩
  | [],hc,h=>obtain⟨us,hv,hr⟩:=h;exact⟨us,hv,RelVals.moved hσ hst hc hr⟩
  |x::y::r,hc,h=>obtain⟨us,hv,hr⟩:=h;exact⟨us,hv,RelVals.moved hσ hst hc hr⟩
def y6 (a:Act) (P:Program) (n0:Nz) (β:Nat→Option Nat) (σ:Nat→Option (Nat×Nat)) (s:St0 E N) (w:World) (new:Nat→Prop) (wr:Wr (std E N)) (vs:List (Val (std E N))):Ending→World→Prop
 | .returned v,w'=>∃σ',Mem P n0 β σ' (s.apply wr) w'∧Ext P n0 new β σ s w β σ' (s.apply wr) w'∧Tidy a new s (s.apply wr)∧RelAV P n0 β σ' (s.apply wr) w' (LI vs) v
 |_,_=>False
theorem pJ {b:Blk} (h:b.c=true) {Q:Blk→Prop} (q:Q ⟨b.b,true⟩):Q b:=by
 obtain⟨b,c⟩:=b
 simp_all
theorem ABR (hn0:n0.n≤w.heap.size) (m:Mem P n0 β σ s w) (hkp:Kept P n0 β σ s w) {ci:CI} (hv:Oz P E N ci) {fn:Func} (hfn:P.funcs[ci.f]?=some fn) {args:List (AV (std E N))} {vals:List Value} {ls:List AQ} {fr:List (Nat×Option (HEnt (std E N)))} {u:List Nat} {k k':Nat}
    (hr:RelArgs P n0 β σ s w args vals) (ha:Gw P fn.params.toList args=true) (hf:IV args=some ci.fns) (hnc:(ci.nw||UG args)=true) (hl:RM.run s (Mr (O:=std E N) P ci.gives fn.params.toList [] args) k=.ok ((ls,fr,u),k')) (hgiv:cT ci.gives u fr=true)
    {rs:List PV} (he:E ci.f ci.fns (ls.map Leaf.pv)=some rs) {id:Nat} {vs:List (Val (std E N))} {nh:List (Nat×HEnt (std E N))} (hb:Br (O:=std E N) P ci.ow ci.nw rs 0 id fn.resultTypes.toList=some (vs,nh))
    (hid:∀n,id≤n→n<id+nh.length→Fresh a s n) {wr:Wr (std E N)} (ht0:wr.ts=[]) (hwb:wr.bs=[])
    (hwr:wr.hs=(match ci.nw with|true=>[]|false=>fr)++(u.map (fun n=>(n,none))++nh.map fun (n,h)=>(n,some h))) :
    Calls P ci.f vals.toArray w (y6 a P n0 β σ s w (fun n=>id≤n∧n<id+nh.length) wr vs):=by
  obtain⟨frOK,vs0,nhc,ids,a1,a2,a3,a4,a5,a6,a7,a8⟩:=RX m hr ha hf hl 1;have hgv:=hgiv;unfold cT at hgv;rw[zzj]at hgv;have hfru:=dF hgv.1
  let sk:=s.apply ({ hs:=fr }:Wr (std E N))
  have subk:Sub s sk:=frOK.sub rfl rfl
  let U:Blk→Prop:=fun b=>(¬InM β σ sk b.b∧Old n0 false b)∨(b.c=true∧∃i cap h,i∈u∧s.getH i=some h∧h.frozen=false∧σ i=some (b.b,cap))∨(ci.nw=true∧∃n e,s.getB n=some e∧β n=some b.b)
  let n0c:Nz:=⟨w.heap.size,U⟩
  let σc:Nat→Option (Nat×Nat):=fun n=>match ids[n-1]? with
    |some (some i)=>σ i
    |_=>none
  have rowc:=a2.row;have gH0:∀n,(Ab nhc).getH n=AL nhc n:=fun n=>rfl
  have gB0:∀n,(Ab nhc).getB n=none:=fun n=>rfl
  have find:∀n h,(Ab nhc).getH n=some h→∃i o,n=1+i∧ids[i]?=some o∧vq P s h o∧h.frozen=false∧σc n=o.bind σ:=fun n h hh=>by
    obtain⟨i,o,h1,h2,h3,h4⟩:=a2.find (rowc.get hh);refine⟨i,o,h1,h2,h3,h4,?_⟩;have:n-1=i:=by omega
    simp only[σc,this,h2];cases o<;>rfl
  have inM0:∀b,InM noB σc (Ab nhc) b→∃i cap h,i∈u∧s.getH i=some h∧h.frozen=false∧σ i=some (b,cap):=fun b hb=>by
    rcases hb with⟨n,e,h1,h2⟩|⟨n,h,cap,h1,h2,h3⟩
    · trivial
    obtain⟨i,o,e1,e2,e3,e4,e5⟩:=find n h h1;rw[e5]at h3;cases o with
    |none=>cases h3
    |some x =>
      obtain⟨h0,q1,q2,q3,q4,q5⟩:=e3;exact⟨x,cap,h0,(a5 x (List.mem_of_getElem? e2)).1,q1,q4,h3⟩
  have inMs:∀b,InM noB σc (Ab nhc) b→InM β σ s b:=fun b hb=>by
    obtain⟨i,cap,h,_,h1,h2,h3⟩:=inM0 b hb;exact .inr ⟨i,h,cap,h1,h2,h3⟩
  have inMk:∀b,InM noB σc (Ab nhc) b→InM β σ sk b:=fun b hb=>by
    obtain⟨i,cap,h,h0,h1,h2,h3⟩:=inM0 b hb;refine .inr ⟨i,h,cap,?_,h2,h3⟩;show AL (BO s.hp fr) i=some h;rw[EX (fun hm=>by
      obtain⟨x,hx,e⟩:=List.mem_map.1 hm;exact hfru x hx (e▸h0))]
    exact h1
  have stc:∀nw b,StB n0 β σ s nw b→b.b<w.heap.size→StB n0c noB σc (Ab nhc) false b:=fun nw b hb hlt =>
    ⟨fun hm=>hb.1 (inMs _ hm),⟨fun e=>(by cases e),.inr ⟨hlt,.inl ⟨fun hm=>hb.1 (subk.inM hm),hb.2.mono (fun e=>(by cases e))⟩⟩⟩⟩
  have m0:Mem P n0c noB σc (Ab nhc) w:=by
    refine⟨fun b e h=>(by trivial),fun n h hh=>?_,fun b b' e e' blk h=>(by trivial),fun n n' h h' blk cap cap' hh hh' h1 h2=>?_,fun b e i h blk cap hb=>(by trivial)⟩
    · obtain⟨i,o,e1,e2,e3,e4,e5⟩:=find n h hh;have hnw:=a7 (n,h) (rowc.get hh);cases o with
      |none =>
        obtain⟨q1,t,ts,q2,q3⟩:=e3;exact .inl ⟨t,ts,q2,q3,by rw[q1];simp,.inl ⟨by rw[e5];rfl,q1⟩⟩
      |some x =>
        obtain⟨h0,q1,q2,q3,q4,q5⟩:=e3;have hnw':h.nw=false:=hnw;refine(m.H x h0 q1).view q2 q3 (by rw[e5];rfl) (fun blk cap hs ho=>?_) (fun b hb=>by rw[hnw'];exact stc _ b hb);rw[hnw'];exact⟨fun e=>by (cases e),.inr ⟨m.ltH q1 hs,.inr (.inl ⟨rfl,x,cap,h0,(a5 x (List.mem_of_getElem? e2)).1,q1,q4,hs⟩)⟩⟩
    obtain⟨i,o,e1,e2,e3,e4,e5⟩:=find n h hh;obtain⟨i',o',e1',e2',e3',e4',e5'⟩:=find n' h' hh';rw[e5]at h1;rw[e5']at h2;cases o with
    |none=>cases h1
    |some x=>cases o' with
      |none=>cases h2
      |some x' =>
        obtain⟨h0,q1,_⟩:=e3;obtain⟨h0',q1',_⟩:=e3';have:=m.uH x x' h0 h0' blk cap cap' q1 q1' h1 h2;subst this;rw[e1,e1',Uv a6 e2 e2']
  have wired:Wired σ σc (Ab nhc) 1 ids nhc:=Xy (fun i o p h1 h2=>by
    have h3:=rowc.idx h2;refine⟨?_,?_⟩
    · have:1+i-1=i:=by omega
      simp only[σc,this,h1];cases o<;>rfl
    rw[gH0,←h3];exact rowc.has (List.mem_of_getElem? h2))
  have rargs:=a8 sk n0c σc (Ab nhc) subk (frOK.frz rfl) (fun b hb hlt =>
    ⟨fun hm=>hb.1 (inMk _ hm),⟨fun e=>(by cases e),.inr ⟨hlt,.inl ⟨hb.1,hb.2⟩⟩⟩⟩) (fun hn b e blk hb hbl=>⟨fun hm=>by
      obtain⟨i,cap,h,h0,h1,h2,h3⟩:=inM0 blk hm;exact m.uX b e i h blk cap hb h1 hbl h3,⟨fun e=>(by cases e),.inr ⟨m.ltB hb hbl,.inr (.inr ⟨by simp_all,b,e,hb,hbl⟩)⟩⟩⟩) wired
  have hlsl:(ls.map Leaf.pv).map PV.leaf=ls:=by
    rw[List.map_map]
    conv=>rhs;rw[←List.map_id ls]
    exact List.map_congr_left (fun x _=>Leaf.leaf_pv x)
  have hnil:jh ci.gives=true→∀q,σc q=none:=fun hn q=>by
    have hu:u=[]:=by
      simp_all
    show(match ids[q-1]? with|some (some i)=>σ i|_=>none)=none
    split
    · rename_i i hi;have:=(a5 i (List.mem_of_getElem? hi)).1;rw[hu]at this;cases this
    rfl
  have hcall:=hv fn hfn (ls.map Leaf.pv) rs he vs0 nhc (by simp_all) n0c σc w vals rfl m0 rargs hnil (fun g hg=>⟨(hkp g hg).1,fun hm=>(hkp g hg).2.1 (inMs g hm),Nat.lt_of_lt_of_le (hkp g hg).2.2 hn0⟩);refine Calls.mono hcall (fun e w' hret=>?_);cases e with
  |panicked c=>exact hret
  |outgrown=>exact hret
  |returned v =>
    obtain⟨r1,r2,r3,r4,r5,r6⟩:=hret;obtain⟨σ1,vs',nh',r7,r8,r9,r10⟩:=r6 id;rw[hb]at r7;cases r7;obtain⟨row1,okh,okc⟩:=T4 hb
    let frx:=match ci.nw with|true=>[]|false=>fr
    let base:=s.apply ({ hs:=frx }:Wr (std E N))
    let s2:=s.apply wr
    let σ2:Nat→Option (Nat×Nat):=fun n=>if id≤n∧n<id+nh.length then σ1 n else σ n
    have frxOK:FrOK s frx:=by
      show FrOK s (match ci.nw with|true=>[]|false=>fr);cases ci.nw
      · exact frOK
      exact fun n v hm=>by simp at hm
    have gB:=fun n=>State.getB_apply0 s wr hwb n
    have gT:=fun n=>State.getT_apply0 s wr ht0 n
    have hs2:s2.hp=BO (BO (BO s.hp frx) (u.map fun n=>(n,none))) (nh.map fun (n,h)=>(n,some h)):=by
      show BO s.hp wr.hs=_;rw[hwr,FC,FC]
    have g1:∀n,id≤n→n<id+nh.length→s2.getH n=AL nh n:=fun n h1 h2=>by
      obtain⟨h,hh⟩:=row1.at h1 h2;rw[row1.has hh];show AL s2.hp n=_;rw[hs2];refine WT (fun x hx e=>?_) ⟨(n,some h),List.mem_map.2 ⟨(n,h),hh,rfl⟩,rfl⟩;obtain⟨y,hy,rfl⟩:=List.mem_map.1 hx;have h3:=row1.has (n:=y.1) (h:=y.2) hy;simp only at e;rw[e,row1.has hh]at h3;cases h3;rfl
    have g2:∀n,¬(id≤n∧n<id+nh.length)→s2.getH n=if n∈u then none else base.getH n:=fun n hn=>by
      show AL s2.hp n=_;rw[hs2,EX (fun hm=>hn (by
        obtain⟨x,hx,rfl⟩:=List.mem_map.1 hm;obtain⟨y,hy,rfl⟩:=List.mem_map.1 hx;exact row1.mem y hy))]
      split
      · rename_i hu;exact WT (fun x hx e=>by obtain⟨y,hy,rfl⟩:=List.mem_map.1 hx;rfl) ⟨(n,none),List.mem_map.2 ⟨n,hu,rfl⟩,rfl⟩
      rename_i hu;rw[EX (fun hm=>hu (by
        simp_all))]
      rfl
    have old:∀n h',¬(id≤n∧n<id+nh.length)→s2.getH n=some h'→n∉u∧base.getH n=some h'∧∃h0,s.getH n=some h0∧(h'=h0∨h'={ h0 with frozen:=true,dirty:=true }):=fun n h' hn hh=>by
      rw[g2 n hn]at hh
      split at hh
      · cases hh
      rename_i hu;exact⟨hu,hh,frxOK.get rfl n h' hh⟩
    have nogiveH:∀n h0 b cap,n∉u→s.getH n=some h0→σ n=some (b,cap)→¬InM noB σc (Ab nhc) b:=fun n h0 b cap hu hh hs hm=>by
      obtain⟨i,cap',h,q1,q2,q3,q4⟩:=inM0 b hm;exact hu (m.uH n i h0 h b cap cap' hh q2 hs q4▸q1)
    have nogiveB:∀n e b,s.getB n=some e→β n=some b→¬InM noB σc (Ab nhc) b:=fun n e b hh hs hm=>by
      obtain⟨i,cap',h,q1,q2,q3,q4⟩:=inM0 b hm;exact m.uX n e i h b cap' hh q2 hs q4
    have in1:∀n h b cap,id≤n∧n<id+nh.length→s2.getH n=some h→σ1 n=some (b,cap)→InM noB σ1 (Ab nh) b:=fun n h b cap hn hh hs=>by
      rw[g1 n hn.1 hn.2]at hh;exact .inr ⟨n,h,cap,hh,(okh _ (row1.get hh)).2.1,hs⟩
    have s2old:∀n,¬(id≤n∧n<id+nh.length)→σ2 n=σ n:=fun n hn=>by simp only[σ2,if_neg hn]
    have s2new:∀n,id≤n∧n<id+nh.length→σ2 n=σ1 n:=fun n hn=>by simp only[σ2,if_pos hn]
    have x:Ext P n0 (fun n=>id≤n∧n<id+nh.length) β σ s w β σ2 s2 w':=by
      refine⟨r1,r2,r3,r4,fun b hlt hm=>.inl (r5 b hlt (fun h=>hm (inMs b h))),fun b hb=>?_,fun n e hh hn=>?_,fun n h' hh hn=>?_⟩
      · rcases hb with⟨n,e,h1,h2⟩|⟨n,h,cap,h1,h2,h3⟩
        · rw[gB]at h1;exact .inl (.inl ⟨n,e,h1,h2⟩)
        by_cases hn:id≤n∧n<id+nh.length
        · rw[s2new n hn]at h3;exact(r10 b (in1 n h b cap hn h1 h3)).imp (inMs b) (fun h=>h)
        rw[s2old n hn]at h3;obtain⟨_,_,h0,q1,q2⟩:=old n h hn h1
        rcases q2 with rfl|rfl
        · exact .inl (.inr ⟨n,h,cap,q1,h2,h3⟩)
        cases h2
      · rw[gB]at hh;exact⟨⟨e,hh⟩,rfl⟩
      obtain⟨_,_,h0,q1,q2⟩:=old n h' hn hh;refine⟨h0,q1,s2old n hn,?_⟩
      rcases q2 with rfl|rfl<;>exact⟨rfl,fun _=>rfl⟩
    have stR:∀b,StB n0c noB σ1 (Ab nh) ci.nw b→StB n0 β σ2 s2 ci.nw b:=fun b hb=>by
      have hge:(¬w.heap.size≤b.b)→ci.nw=false:=fun h=>by
        cases hnw:ci.nw
        · rfl
        exact(h (hb.2.1 hnw)).elim
      refine⟨fun hm=>?_,⟨fun e=>Nat.le_trans hn0 (hb.2.1 e),?_⟩⟩
      · rcases hm with⟨n,e,h1,h2⟩|⟨n,h,cap,h1,h2,h3⟩
        · rw[gB]at h1;have hlt:=m.ltB h1 h2
          rcases hb.2.2 with h|⟨_,⟨h,_⟩|⟨_,i,cap',h,q1,q2,q3,q4⟩|⟨hnw,_⟩⟩
          · have:w.heap.size≤b.b:=h.1;omega
          · exact h (.inl ⟨n,e,by trivial,h2⟩)
          · exact m.uX n e i h b.b cap' h1 q2 h2 q4
          simp_all
        by_cases hn:id≤n∧n<id+nh.length
        · rw[s2new n hn]at h3;exact hb.1 (in1 n h b.b cap hn h1 h3)
        rw[s2old n hn]at h3;obtain⟨hu,hbase,h0,q1,q2⟩:=old n h hn h1;have hlt:=m.ltH q1 h3
        rcases hb.2.2 with h|⟨_,⟨h,_⟩|⟨_,i,cap',hi,p1,p2,p3,p4⟩|⟨hnw,_⟩⟩
        · have:w.heap.size≤b.b:=h.1;omega
        · have hnw:=hge (by omega);refine h (.inr ⟨n,_,cap,?_,h2,h3⟩);have:base=sk:=by simp only[base,frx,hnw];rfl
          rw[←this];exact hbase
        · exact hu (m.uH n i h0 hi b.b cap cap' q1 p2 h3 p4▸p1)
        simp_all
      rcases hb.2.2 with h|⟨hl9,⟨_,h⟩|⟨hc9,i,cap',hi,p1,p2,p3,p4⟩|⟨hnw,_⟩⟩
      · exact .inl ⟨Nat.le_trans hn0 h.1,h.2⟩
      · exact h.2
      · rcases m.H i hi p2 with⟨t,ts,_,_,_,hm⟩|hM
        case inr=>exact pJ (Q:=fun b=>(n0.n≤b.b∧b.c=true)∨(b.b<n0.n∧n0.U b)) hc9 (hM.blk p4).2.2
        rcases hm with⟨h1,_⟩|⟨blk,cap,cells,el,h1,_,_,_,_,ho,_⟩
        · simp_all
        rw[h1]at p4;cases p4;exact pJ (Q:=fun b=>(n0.n≤b.b∧b.c=true)∨(b.b<n0.n∧n0.U b)) hc9 ho.2
      have h1:w.heap.size≤b.b:=hb.2.1 hnw;have h2:b.b<w.heap.size:=hl9;omega
    have newold:∀n h b cap,id≤n∧n<id+nh.length→s2.getH n=some h→σ1 n=some (b,cap)→(∀n' h' cap',¬(id≤n'∧n'<id+nh.length)→s2.getH n'=some h'→σ n'≠some (b,cap'))∧(∀n' e,s.getB n'=some e→β n'≠some b):=fun n h b cap hn hh hs=>by
      have:=r10 b (in1 n h b cap hn hh hs);refine⟨fun n' h' cap' hn' hh' hs'=>?_,fun n' e hh' hs'=>?_⟩
      · obtain⟨hu,_,h0,q1,_⟩:=old n' h' hn' hh'
        rcases this with h|h
        · exact nogiveH n' h0 b cap' hu q1 hs' h
        have:=m.ltH q1 hs';omega
      rcases this with h|h
      · exact nogiveB n' e b hh' hs' h
      have:=m.ltB hh' hs';omega
    have tidy:Tidy a (fun n=>id≤n∧n<id+nh.length) s s2:=by
      refine⟨fun n hf hn=>⟨fun q tv hq=>?_,fun q e hq=>?_,fun q h hq=>?_⟩,fun n e hh hd=>?_,fun n h hh hd=>?_⟩
      · rw[gT]at hq;exact hf.t q tv hq
      · rw[gB]at hq;exact hf.b q e hq
      · by_cases hr:id≤q∧q<id+nh.length
        · omega
        obtain⟨_,_,h0,q1,_⟩:=old q h hr hq;exact hf.h q h0 q1
      · rw[gB]at hh;exact hh
      by_cases hr:id≤n∧n<id+nh.length
      · rw[g1 n hr.1 hr.2]at hh;have:=(okh _ (row1.get hh)).2.2
        simp_all
      obtain⟨_,_,h0,q1,q2⟩:=old n h hr hh
      rcases q2 with rfl|rfl
      · exact q1
      cases hd
    refine⟨σ2,⟨fun n e hh=>?_,fun n h hh=>?_,fun b b' e e' blk h h'=>?_,fun n n' h h' blk cap cap' hh hh' h1 h2=>?_,fun b e i h blk cap hb' hi h1 h2=>?_⟩,x,tidy,?_⟩
    · rw[gB]at hh;obtain⟨blk,cells,el,q1,q2,q3,q4⟩:=m.B n e hh;exact⟨blk,cells,el,q1,(r5 blk (Ff q2) (nogiveB n e blk hh q1)).trans q2,x.relCs (fun k hk hn=>((hid k hn.1 hn.2).b n e hh).2 hk) q3,q4⟩
    · by_cases hn:id≤n∧n<id+nh.length
      · have hh':=hh;rw[show(s.apply wr).getH n=AL nh n from g1 n hn.1 hn.2]at hh';have hnw:h.nw=ci.nw:=(okh _ (row1.get hh')).1;refine(r8.H n h hh').view rfl rfl (s2new n hn) (fun blk cap hs ho=>?_) (fun b hb _=>by rw[hnw]at hb⊢;exact stR b hb);refine⟨fun e=>Nat.le_trans hn0 (ho.1 e),?_⟩
        rcases ho.2 with h|⟨hl9,⟨_,h⟩|⟨_,i,cap',hi,p1,p2,p3,p4⟩|⟨hcn,_⟩⟩
        · exact .inl ⟨Nat.le_trans hn0 h.1,rfl⟩
        · exact h.2
        · rcases m.H i hi p2 with⟨t,ts,_,_,_,hm⟩|hM
          case inr=>exact(hM.blk p4).2.2
          rcases hm with⟨h1,_⟩|⟨blk',cap,cells,el,h1,_,_,_,_,ho,_⟩
          · simp_all
          rw[h1]at p4;cases p4;exact ho.2
        exact .inl ⟨Nat.le_trans hn0 (ho.1 (hnw.trans hcn)),rfl⟩
      obtain⟨hu,_,h0,q1,q2⟩:=old n h hn hh;have key:RelH P n0 β σ2 s2 w' n h0:=by
        rcases m.H n h0 q1 with⟨t,ts,ht,hts,hrl,hm⟩|hM
        case inr=>exact .inr (hM.view rfl rfl (s2old n hn) (fun blk cap hs=>r5 blk (m.ltH q1 hs) (nogiveH n h0 blk cap hu q1 hs)) (fun _ _ _ ho=>ho))
        refine .inl ⟨t,ts,ht,hts,hrl,?_⟩
        rcases hm with⟨p1,p2⟩|⟨blk,cap,cells,el,p1,p2,p3,p4,p5,p6,v',p7,p8⟩
        · simp_all
        exact .inr ⟨blk,cap,cells,el,by simp_all,(r5 blk (Ff p2) (nogiveH n h0 blk cap hu q1 p1)).trans p2,p3,p4,p5,p6,v',p7,fun i j t' hi hj=>x.rep (p8 i j t' hi hj)⟩
      rcases q2 with rfl|rfl
      · exact key
      trivial
    · rw[gB]at h h';exact m.uB b b' e e' blk h h'
    · by_cases hn:id≤n∧n<id+nh.length<;>by_cases hn':id≤n'∧n'<id+nh.length
      · rw[s2new n hn]at h1;rw[s2new n' hn']at h2;rw[show(s.apply wr).getH n=AL nh n from g1 n hn.1 hn.2]at hh;rw[show(s.apply wr).getH n'=AL nh n' from g1 n' hn'.1 hn'.2]at hh';exact r8.uH n n' h h' blk cap cap' hh hh' h1 h2
      · rw[s2new n hn]at h1;rw[s2old n' hn']at h2;exact((newold n h blk cap hn hh h1).1 n' h' cap' hn' hh' h2).elim
      · rw[s2old n hn]at h1;rw[s2new n' hn']at h2;exact((newold n' h' blk cap' hn' hh' h2).1 n h cap hn hh h1).elim
      rw[s2old n hn]at h1;rw[s2old n' hn']at h2;obtain⟨_,_,h0,q1,_⟩:=old n h hn hh;obtain⟨_,_,h0',q1',_⟩:=old n' h' hn' hh';exact m.uH n n' h0 h0' blk cap cap' q1 q1' h1 h2
    · rw[gB]at hb'
      by_cases hn:id≤i∧i<id+nh.length
      · rw[s2new i hn]at h2;exact(newold i h blk cap hn hi h2).2 b e hb' h1
      rw[s2old i hn]at h2;obtain⟨_,_,h0,q1,_⟩:=old i h hn hi;exact m.uX b e i h0 blk cap hb' q1 h1 h2
    exact RelAV.moved (fun n h1 h2=>⟨s2new n ⟨h1,h2⟩,g1 n h1 h2⟩) stR okc r9
end
section
variable {E:Env} {N:Nat} {P:Program} {n0 n0':Nz} {nt:Nat} {β β':Nat→Option Nat} {σ σ':Nat→Option (Nat×Nat)} {s s':St0 E N} {a:Act} {w w':World}
def GI (s:St0 E N) (done:List Nat):Prop:=∀n tv,s.getT n=some tv→∀g∈tv.gs,g.1∈done
def After (P:Program) (n0:Nz) (nt:Nat) (new:Nat→Prop) (β:Nat→Option Nat) (σ:Nat→Option (Nat×Nat)) (s:St0 E N) (a:Act) (w:World) (dst:Option Nat) (wr:Wr (std E N)) (a':Act) (w':World):Prop :=
  ∃β' σ',Sim P n0 nt β' σ' (s.apply wr) a' w'∧Ext P n0 new β σ s w β' σ' (s.apply wr) w'∧(∀n,Fresh a s n→¬new n→Fresh a' (s.apply wr) n) ∧
    (∀n e,(s.apply wr).getB n=some e→e.dirty=false→s.getB n=some e)∧(∀n e,(s.apply wr).getH n=some e→e.dirty=false→s.getH n=some e) ∧
    a'.defers=a.defers∧∀n,dst≠some n→a'.tmps.getD n undef=a.tmps.getD n undef
theorem Fp {a:Act} {d n:Nat} {v:Value} (h:n≠d):(a.put (some d) v).tmps.getD n undef=a.tmps.getD n undef:=by
 simp only[Act.put];rw[Array.getD_eq_getD_getElem?,Array.getD_eq_getD_getElem?,Array.getElem?_setIfInBounds]
 grind
theorem Mm {a:Act} {d:Nat} {v:Value} (h:d<a.tmps.size):(a.put (some d) v).tmps.getD d undef=v:=by
 simp only[Act.put]
 simp_all
theorem HH {a:Act} {d:Nat} {v:Value} {gs:List (Nat×Bool)} (h:∀g∈gs,g.1≠d):Facts (a.put (some d) v) gs↔Facts a gs:=by
 constructor
 ·intro hf n b hm;rw[←hf n b hm,Fp (h _ hm)]
 intro hf n b hm;rw[Fp (h _ hm)];exact hf n b hm
theorem o5 {n:Nat} (h:¬n<Fg):s.getT n=none:=by
 unfold State.getT DR;cases hb:Nat.blt n Fg
 ·rfl
 exact(h (A7.1 hb)).elim
theorem HE (hs:Sim P n0 nt β σ s a w) {done:List Nat} (gi:GI s done) {d:Nat} (hd:d∉done) (hdn:d<nt) {new:Nat→Prop} (hnew:∀ n,new n→Fresh a s n)
    {ctx:List (Nat×Bool)} (hctx:∀g∈ctx,g.1∈done) {av:AV (std E N)} {bs:List (Nat×Option (BEnt (std E N)))} {hh:List (Nat×Option (HEnt (std E N)))} {z:Value}
    (m:Mem P n0 β' σ' (s.apply { bs:=bs,hs:=hh }) w') (x:Ext P n0 new β σ s w β' σ' (s.apply { bs:=bs,hs:=hh }) w') (t:Tidy a new s (s.apply { bs:=bs,hs:=hh }))
    (hz:(Facts a ctx∧RelAV P n0 β' σ' (s.apply { bs:=bs,hs:=hh }) w' av z∧∀n,Fresh a s n→¬new n→n∉av.names)∨(¬Facts a ctx∧z=undef)) :
    After P n0 nt new β σ s a w (some d) { ts:=[(d,some ⟨ctx,av⟩)],bs:=bs,hs:=hh } (a.put (some d) z) w':=by
  let wr:Wr (std E N):={ ts:=[(d,some ⟨ctx,av⟩)],bs:=bs,hs:=hh }
  have gT:=fun n=>State.getT_apply1 s d (some ⟨ctx,av⟩) wr rfl n
  have sub:Sub (s.apply { bs:=bs,hs:=hh }) (s.apply wr):=Sub.of_same (fun _=>rfl) (fun _=>rfl);have x2:=(x.trans (sub.ext P n0 (fun _=>False) β' σ' w')).weaken (fun n (h:new n∨False)=>h.elim (fun h=>h) (fun h=>h.elim));have ne:∀{g:Nat×Bool},g.1∈done→g.1≠d:=fun hg e=>hd (e▸hg)
  have hsz:(a.put (some d) z).tmps.size=nt:=by simp[Act.put,hs.size]
  refine⟨β',σ',⟨Nat.le_trans hs.n0le x.size,hsz,fun n tv hn=>?_,sub.mem m,(hs.kept.ext x).ext (sub.ext P n0 (fun _=>False) β' σ' w')⟩,x2,fun n hf hn=>⟨fun k tv hk hg=>?_,fun k e he=>(t.fresh n hf hn).b k e he,fun k e he=>(t.fresh n hf hn).h k e he⟩,t.cleanB,t.cleanH,rfl,fun n hn=>Fp (fun e=>hn (by rw[e]))⟩
  · rw[gT]at hn
    split at hn
    · rename_i he;cases hn;rw[he.1,Mm (by rw[hs.size];exact hdn)]
      rcases hz with⟨h1,h2,_⟩|⟨h1,h2⟩
      · exact .inl ⟨(HH (fun g hg=>ne (hctx g hg))).2 h1,(sub.ext P n0 (fun _=>False) β' σ' w').relAV (fun _ _ h=>h) h2⟩
      exact .inr ⟨fun h=>h1 ((HH (fun g hg=>ne (hctx g hg))).1 h),h2⟩
    rename_i he;have hnd:n≠d:=fun e=>by
      by_cases hb:d<Fg
      · omega
      rw[e,o5 hb]at hn;cases hn
    rw[Fp hnd];have hg:∀g∈tv.gs,g.1≠d:=fun g hg=>ne (gi n tv hn g hg)
    rcases hs.T n tv hn with⟨h1,h2⟩|⟨h1,h2⟩
    · exact .inl ⟨(HH hg).2 h1,x2.relAV (fun k hk hnw=>(hnew k hnw).t n tv hn h1 hk) h2⟩
    exact .inr ⟨fun h=>h1 ((HH hg).1 h),h2⟩
  rw[gT]at hk
  split at hk
  · rename_i he;cases hk;have hg':=(HH (fun g hg=>ne (hctx g hg))).1 hg
    simp_all
  exact hf.t k tv hk ((HH (fun g hg=>ne (gi k tv hk g hg))).1 hg)
theorem GI.put {done:List Nat} (gi:GI s done) {d:Nat} {ctx:List (Nat×Bool)} (hctx:∀g∈ctx,g.1∈done) {av:AV (std E N)} {wr:Wr (std E N)} (hw:wr.ts=[(d,some ⟨ctx,av⟩)]):GI (s.apply wr) (d::done):=by
 intro n tv hn g hg;rw[State.getT_apply1 s d _ wr hw]at hn
 split at hn
 ·grind
 exact zzm _ (gi n tv hn g hg)
theorem Xj (hs:Sim P n0 nt β σ s a w) {new:Nat→Prop} (hnew:∀ n,new n→Fresh a s n) {wr:Wr (std E N)} (ht0:wr.ts=[])
    (m:Mem P n0 β' σ' (s.apply wr) w') (x:Ext P n0 new β σ s w β' σ' (s.apply wr) w') (t:Tidy a new s (s.apply wr)):After P n0 nt new β σ s a w none wr a w':=by
  refine⟨β',σ',⟨Nat.le_trans hs.n0le x.size,hs.size,fun n tv hn=>?_,m,hs.kept.ext x⟩,x,t.fresh,t.cleanB,t.cleanH,rfl,fun _ _=>rfl⟩;rw[State.getT_apply0 s wr ht0]at hn
  rcases hs.T n tv hn with⟨h1,h2⟩|⟨h1,h2⟩
  · exact .inl ⟨h1,x.relAV (fun k hk hnw=>(hnew k hnw).t n tv hn h1 hk) h2⟩
  exact .inr ⟨h1,h2⟩
theorem gd (hs:Sim P n0 nt β σ s a w) {done:List Nat} (gi:GI s done) {ops:Array Oper} {o:Oper} {ctx:List (Nat×Bool)} {k k':Nat} (h:RM.run s (YM (O:=std E N) ops.toList o) k=.ok (ctx,k'))
    (hg:∀j want d,o.guard=some (j,want)→(ops[j]?).bind (·.dst)=some d→d∈done) :
    (Region.wanted o (yielded ops a.tmps)=true↔Facts a ctx)∧(∀g∈ctx,g.1∈done)∧(o.guard=none→ctx=[]):=by
  unfold YM at h
  split at h
  · rename_i hn;cases zzc h;exact⟨⟨fun _ n b hm=>by simp at hm,fun _=>by simp[Region.wanted,hn]⟩,fun g hm=>by simp at hm,fun _=>rfl⟩
  rename_i j want hn
  split at h
  · rename_i d hd;obtain⟨k1,h⟩:=zze h;cases ht:s.getT d with
    |none=>rw[ht]at h;trivial
    |some tv =>
      rw[ht]at h;cases zzc h;have hd':(ops[j]?).bind (·.dst)=some d:=by simp_all
      have hdd:=hg j want d hn hd';have hy:yielded ops a.tmps j=some want↔a.tmps.getD d undef=.bool want:=by
        unfold yielded;rw[hd',Option.bind_some,Array.getD_eq_getD_getElem?];cases hx:a.tmps[d]? with
        |none=>simp[undef]
        |some v=>grind
      have hw:Region.wanted o (yielded ops a.tmps)=true↔a.tmps.getD d undef=.bool want:=by
        rw[←hy];simp[Region.wanted,hn]
      refine⟨⟨fun h=>?_,fun hf=>hw.2 (hf d want zzl)⟩,fun g hm=>?_,fun h=>by simp_all⟩
      · have hv:=hw.1 h
        rcases hs.T d tv ht with⟨h1,_⟩|⟨_,h2⟩
        · intro n b hm
          rcases List.mem_cons.1 hm with e|hm
          · simp_all
          exact h1 n b hm
        rw[hv]at h2;trivial
      rcases List.mem_cons.1 hm with rfl|hm
      · exact hdd
      exact gi d tv ht g hm
  trivial
theorem Jj:∀{gs:List (Nat×Bool)} {m m':Nat},RM.run s (Wg (O:=std E N) gs) m=.ok (none,m')→gs=[]
 | [],_,_,_=>rfl
 |(n,want)::r,m,m',h=>by
  obtain⟨m1,h⟩:=zze h
  split at h
  ·obtain⟨g,m2,h1,h2⟩:=zza h;have:=zzc h2;cases this
  trivial
theorem dY:∀{fr l:List (Nat×Option (HEnt (std E N)))} {k k':Nat},RM.run s (fB (O:=std E N) fr) k=.ok (l,k')→FrOK s l∧(FrOK s fr→l=fr)
 | [],l,k,k',h=>by cases zzc h;exact⟨fun _ _ hm=>by simp at hm,fun _=>rfl⟩
 |(n,v)::r,l,k,k',h=>by
  obtain⟨k1,h⟩:=zzf h;cases hh:s.getH n with
  |none=>rw[hh]at h;trivial
  |some e =>
   rw[hh]at h;obtain⟨l2,k2,h1,h2⟩:=zza h;cases zzc h2;obtain⟨a1,a2⟩:=dY h1;refine⟨fun q v hm=>?_,fun hf=>?_⟩
   ·rcases List.mem_cons.1 hm with e1|hm
    ·simp_all
    exact a1 q v hm
   obtain⟨h0,q1,q2⟩:=hf n v zzl;rw[hh]at q1;cases q1;rw[a2 (fun q v hm=>hf q v (zzm _ hm)),q2]
end
open Go.RowKit Go
variable {P:Program} {w:World}
theorem tj {K:TypeId} (hK:P.underlying K=some (.int .i64)) (em:Bool) (k:Int):(Instr.checkKey em 10000 K (.int .i64 k)).run P w=.ok () w:=by
 rw[show(10000:Nat)=9999+1 from rfl,Instr.checkKey];simp[run_underlying hK,Result.andThen]
def I9 (e:MapEntry):Value×Value:=(e.key,e.val)
theorem Zc {k:Int}:∀ (es:List MapEntry) (L:Rows) (j:Nat),es.map I9=OK L →
    (Instr.findNow (.int .i64) (.int .i64 k) es j=some none∧MM k L=false∧∀v b,(es++[({ key:=.int .i64 k,val:=.bool v,born:=b }:MapEntry)]).map I9=OK (O9 k v L)) ∨
    ∃i e,es[i]?=some e∧e.key=.int .i64 k∧Instr.findNow (.int .i64) (.int .i64 k) es j=some (some (j+i,.bool (MM k L)))∧∀v (f:MapEntry→MapEntry),(∀e,I9 (f e)=(.int .i64 k,.bool v))→(es.modify i f).map I9=OK (O9 k v L)
  | [],[],j,_=>.inl ⟨rfl,rfl,fun _ _=>rfl⟩
  | [],r::L,j,h=>by cases h
  |e::es,[],j,h=>by cases h
  |e::es,r::L,j,h=>by
    have h1:I9 e=(.int .i64 (Rm r),.bool (pvB (AA r 1))):=(List.cons.inj h).1;have h2:=(List.cons.inj h).2;have hk:e.key=.int .i64 (Rm r):=congrArg Prod.fst h1;have hv:e.val=.bool (pvB (AA r 1)):=congrArg Prod.snd h1;have hs:Instr.sameNow (.int .i64) (.int .i64 k) e.key=some (k==Rm r):=by rw[hk];rfl
    unfold Instr.findNow MM O9;rw[hs];cases hc:k==Rm r
    · rcases Zc (k:=k) es L (j+1) h2 with⟨a1,a2,a3⟩|⟨i,e',a0,a1,a2,a3⟩
      · exact .inl ⟨a1,a2,fun v b=>by
          show I9 e::(es++_).map I9=_::OK (O9 k v L);rw[a3 v b,h1]⟩
      exact .inr ⟨i+1,e',a0,a1,by simp only[cond_false];rw[a2,show j+1+i=j+(i+1) by omega],fun v f hf=>by
        show I9 e::(es.modify i f).map I9=_::OK (O9 k v L);rw[a3 v f hf,h1]⟩
    have:=beq_iff_eq.1 hc;subst this;exact .inr ⟨0,e,rfl,hk,by rw[hv];rfl,fun v f hf=>by
      show I9 (f e)::es.map I9=_::OK L;rw[hf e,h2];rfl⟩
theorem bV {T:TypeId} (h:bZ P T=true):∃K V,P.underlying T=some (.map K V)∧P.underlying K=some (.int .i64)∧P.underlying V=some .bool∧∀w,(zeroValue V).run P w=.ok (.bool false) w:=by
 unfold bZ at h
 split at h
 case h_2=>cases h
 rename_i K V hu;simp only[zzj]at h;obtain⟨h1,h2,h3⟩:=h;refine⟨K,V,hu,?_,?_,fun w=>?_⟩
 ·split at h1
  ·assumption
  cases h1
 ·split at h2
  ·assumption
  cases h2
 split at h3
 ·rename_i i hi
  split at h3
  ·rename_i z hz;cases z
   ·unfold zeroValue;simp only[Sem.run_bind,run_typeInfo w hi,Result.andThen_ok,hz,Sem.run_pure]
   cases h3
  cases h3
 cases h3
section
variable {T:TypeId} {r:Nat} {k:Int} {L:Rows}
theorem jR (h:bZ P T=true) (hb:X2 w r L):(Instr.lookup T (.map (some r)) (.int .i64 k) false).run P w=.ok (.bool (MM k L)) w:=by
 obtain⟨K,V,hT,hK,hV,hz⟩:=bV h;obtain⟨es,clock,h1,h2⟩:=hb;unfold Instr.lookup Instr.findKey;simp only[Sem.run_bind,run_underlying hT,MapKept.run_getObj_map h1,tj hK,run_underlying hK,Result.andThen_ok,Sem.run_pure]
 rcases Zc (k:=k) es.toList L 0 h2 with⟨a1,a2,_⟩|⟨i,e,_,_,a1,_⟩
 ·simp[a1,a2,hz,Result.andThen]
 simp[a1,Result.andThen]
def World.withMap (w:World) (r:Nat) (es:Array MapEntry) (c:Nat):World:={ w with heap:=w.heap.setIfInBounds r (.map es c) }
theorem vF {es0 es:Array MapEntry} {c0 c:Nat} (hb:w.heap[r]?=some (.map es0 c0)) (hl:es.toList.map I9=OK L):X2 (World.withMap w r es c) r L:=⟨es,c,(MapKept.heap_set hb).1,hl⟩
theorem jC (h:bZ P T=true) (v:Bool) (hb:X2 w r L):∃es c,(Instr.mapUpdate T (.map (some r)) (.int .i64 k) (.bool v)).run P w=.ok () (World.withMap w r es c)∧es.toList.map I9=OK (O9 k v L):=by
 obtain⟨K,V,hT,hK,hV,hz⟩:=bV h;obtain⟨es,clock,h1,h2⟩:=hb;unfold Instr.mapUpdate Instr.findKey;simp only[Sem.run_bind,run_underlying hT,MapKept.run_getObj_map h1,tj hK,run_underlying hK,Result.andThen_ok,Sem.run_pure]
 rcases Zc (k:=k) es.toList L 0 h2 with⟨a1,a2,a3⟩|⟨i,e,a0,a1,a2,a3⟩
 ·refine⟨es.push { key:=.int .i64 k,val:=.bool v,born:=clock },clock+1,?_,by rw[Array.toList_push];exact a3 v clock⟩;simp[a1,MapKept.run_setObj_map _ h1,Result.andThen,World.withMap]
 refine⟨es.modify i fun e=>{ e with key:=.int .i64 k,val:=.bool v },clock,?_,by rw[Array.toList_modify];exact a3 v _ (fun _=>rfl)⟩;have e1:((Option.map (fun x:MapEntry=>x.key) es[i]?).getD (.int .i64 k))=.int .i64 k:=by
  rw[←Array.getElem?_toList,a0];exact a1
 have e2:(Instr.keyThatStays (.int .i64 k) (.int .i64 k)).run P w=.ok (.int .i64 k) w:=by
  unfold Instr.keyThatStays;simp[Instr.sameBits]
 simp only[a2,Sem.run_pure,Result.andThen_ok,Nat.zero_add,Sem.run_bind,e1,e2,MapKept.run_setObj_map _ h1];rfl
theorem lX {ty:TypeId} (h:bZ P T=true) (hb:X2 w r L):∃es c,(Builtin.clear_ #[T] ty #[.map (some r)]).run P w=.ok (.tuple #[]) (World.withMap w r es c)∧es.toList.map I9=OK []:=by
 obtain⟨K,V,hT,hK,hV,hz⟩:=bV h;obtain⟨es,clock,h1,h2⟩:=hb;refine⟨#[],clock,?_,rfl⟩;unfold Builtin.clear_;simp[run_underlying hT,MapKept.run_getObj_map h1,MapKept.run_setObj_map _ h1,Result.andThen,World.withMap]
end
end Go.Px
end
section
namespace Go.Px
section
variable {E:Env} {N:Nat} {P:Program} {n0:Nz} {nt:Nat} {β:Nat→Option Nat} {σ:Nat→Option (Nat×Nat)} {s s':St0 E N} {a:Act} {w w':World}
theorem RF (m:Mem P n0 β σ s w) {id:Nat} {en h:HEnt (std E N)} (hh:s.getH id=some en) (hfz:en.frozen=false) {wr:Wr (std E N)} (ht0:wr.ts=[]) (hb:wr.bs=[])
    (hws:wr.hs=[(id,some h)]) (hd:h.dirty=true) (hz:h.frozen=false) (hle:h.e=en.e) (hll:(∃t,AK P t=.sl en.e)→h.l.length=en.l.length) (ho:w'.os=w.os) (htp:w'.tape=w.tape) (hout:w'.output=w.output)
    (hsize:w'.heap.size=w.heap.size) (hother:∀b,(∀cap,σ id≠some (b,cap))→w'.heap[b]?=w.heap[b]?)
    (hrel:Ext P n0 (fun _=>False) β σ s w β σ (s.apply wr) w'→RelH P n0 β σ (s.apply wr) w' id h) :
    Mem P n0 β σ (s.apply wr) w'∧Ext P n0 (fun _=>False) β σ s w β σ (s.apply wr) w'∧Tidy a (fun _=>False) s (s.apply wr):=by
  have gB:=fun n=>State.getB_apply0 s wr hb n
  have gs:∀n,(s.apply wr).getH n=if n=id then some h else s.getH n:=fun n=>by
    unfold State.apply State.getH;simp only[hws,BO];exact BQ _ _ _ _
  have hget:(s.apply wr).getH id=some h:=by simp_all
  have fget:∀n h',n≠id→(s.apply wr).getH n=some h'→s.getH n=some h':=fun n h' hn he=>by simp_all
  have hin:∀blk cap,σ id=some (blk,cap)→InM β σ s blk:=fun blk cap hs=>.inr ⟨id,en,cap,hh,hfz,hs⟩
  have hoth:∀b,¬InM β σ s b→w'.heap[b]?=w.heap[b]?:=fun b hm=>hother b (fun cap hs=>hm (hin b cap hs))
  have x:Ext P n0 (fun _=>False) β σ s w β σ (s.apply wr) w':=by
    refine⟨ho,htp,hout,by omega,fun b hb hm=>.inl (hoth b hm),fun b hb=>.inl ?_,fun b e he hn=>?_,fun n e he hn=>?_⟩
    · rcases hb with⟨n,e,he,hb⟩|⟨n,e,cap',he,hfz',hb⟩
      · rw[gB]at he;exact .inl ⟨n,e,he,hb⟩
      by_cases hid:n=id
      · simp_all
      exact .inr ⟨n,e,cap',fget n e hid he,hfz',hb⟩
    · simp_all
    grind
  refine⟨S7 (id:=id) m x (fun n e he=>?_) (fun n e blk' he hb=>?_) (fun n h' hn he=>?_) (fun n h' blk' cap' hn he hs=>?_) (fun h' he=>?_) (fun blk' cap' hs=>?_),x,⟨fun n hfn _=>?_,fun n e he hd'=>?_,fun n e he hd'=>?_⟩⟩
  · simp_all
  · rw[gB]at he;exact hother blk' (fun cap hs=>m.uX n e id en blk' cap he hh hb hs)
  · simp_all
  · exact hother blk' (fun cap hs2=>hn (m.uH n id h' en blk' cap' cap (fget n h' hn he) hh hs hs2))
  · simp_all
  · refine⟨fun n e he hb=>?_,fun n h' cap'' hn he hs2=>?_⟩
    · rw[gB]at he;exact m.uX n e id en blk' cap' he hh hb hs
    exact hn (m.uH n id h' en blk' cap'' cap' (fget n h' hn he) hh hs2 hs)
  · refine⟨fun q tv hq=>?_,fun q e he=>?_,fun q e he=>?_⟩
    · rw[State.getT_apply0 s wr ht0]at hq;exact hfn.t q tv hq
    · rw[gB]at he;exact hfn.b q e he
    by_cases hq:q=id
    · rw[hq];exact hfn.h id en hh
    exact hfn.h q e (fget q e hq he)
  · simp_all
  grind
theorem Tidy.of_sub {fr:List (Nat×Option (HEnt (std E N)))} (h:PreOK s fr) {wr:Wr (std E N)} (hw:wr.hs=fr) (hb:wr.bs=[]) (ht:wr.ts=[]) (new:Nat→Prop):Tidy a new s (s.apply wr) where
 fresh n hf _:=⟨fun k tv hk=>by rw[State.getT_apply0 s wr ht]at hk;exact hf.t k tv hk,fun k e he=>by rw[State.getB_apply0 s wr hb]at he;exact hf.b k e he,fun k e he=>by
  obtain⟨h0,q1,_⟩:=h.get hw k e he;exact hf.h k h0 q1⟩
 cleanB n e he hd:=by rw[State.getB_apply0 s wr hb]at he;exact he
 cleanH n e he hd:=by
  obtain⟨h0,q1,q2⟩:=h.get hw n e he
  grind
theorem Tidy.weaken {new new':Nat→Prop} (t:Tidy a new s s') (h:∀n,new n→new' n):Tidy a new' s s' :=
 ⟨fun n hf hn=>t.fresh n hf (fun k=>hn (h n k)),t.cleanB,t.cleanH⟩
end
section
variable {E:Env} {N:Nat} {P:Program} {n0:Nz} {nt:Nat} {β:Nat→Option Nat} {σ:Nat→Option (Nat×Nat)} {s s':St0 E N} {a:Act} {w w':World}
theorem xL (hs:Sim P n0 nt β σ s a w) {e:TypeId} {q:Nat} {v:Value} {en:HEnt (std E N)} (hc:RelC P n0 β σ s w (.mp e q) v) (hh:s.getH q=some en) :
    en.e=e∧∃r,v=.map (some r)∧σ q=some (r,0)∧e=GN P∧X2 w r en.l∧Old n0 en.nw ⟨r,true⟩:=by
  obtain⟨⟨hno,_⟩,hk⟩:=hc;obtain⟨he,r,hsq,hv⟩:=hk en hh
  rcases hs.M.H q en hh with⟨t,ts,ht,_⟩|⟨r',a1,a2,a3,a4,a5⟩
  · exact(hno t (by rw[←he];exact ht)).elim
  rw[hsq]at a3;cases a3;exact⟨he,r,hv,hsq,he.symm.trans a1,a4,a5⟩
theorem tp (hs:Sim P n0 nt β σ s a w) {e:TypeId} {q:Nat} {v:Value} {en:HEnt (std E N)} (hc:RelC P n0 β σ s w (.mp e q) v) (hh:s.getH q=some en) (hfz:en.frozen=false) :
    ∃r,v=.map (some r)∧X2 w r en.l∧∀(L:Rows) es c,es.toList.map I9=OK L→∀{wr:Wr (std E N)},wr.ts=[]→wr.bs=[]→wr.hs=[(q,some { en with l:=L,dirty:=true })] →
      Mem P n0 β σ (s.apply wr) (World.withMap w r es c)∧Ext P n0 (fun _=>False) β σ s w β σ (s.apply wr) (World.withMap w r es c)∧Tidy a (fun _=>False) s (s.apply wr):=by
  obtain⟨he,r,hv,hsq,hm,hat,hold⟩:=xL hs hc hh;have hno:∀t,AK P t≠.sl en.e:=by rw[he];exact hc.1.1
  refine⟨r,hv,hat,fun L es c hl wr ht0 hb hws=>?_⟩;obtain⟨es0,c0,h1,_⟩:=hat;refine RF hs.M hh hfz ht0 hb hws rfl hfz rfl (fun ⟨t,ht⟩=>(hno t ht).elim) rfl rfl rfl ?_ ?_ (fun x=>?_)
  · show(w.heap.setIfInBounds r _).size=_;simp
  · intro b hb2;have hne:b≠r:=fun e=>hb2 0 (by rw[e];exact hsq)
    exact(MapKept.heap_set h1).2 b hne
  exact .inr ⟨r,he.trans hm,hno,hsq,vF h1 hl,hold⟩
theorem AAi (m:Mem P n0 β σ s w) {id:Nat} (hf:Fresh a s id) {fr:List (Nat×Option (HEnt (std E N)))} (hfr:PreOK s fr) {h:HEnt (std E N)} {wr:Wr (std E N)}
    (ht0:wr.ts=[]) (hb:wr.bs=[]) (hh:wr.hs=fr++[(id,some h)]) (hd:h.dirty=true) (hz:h.frozen=false) {w1:World} (g:Grow w w1) {cap:Nat} {ob:Obj}
    (hrel:Ext P n0 (·=id) β σ s w β (upd σ id (some (w1.heap.size,cap))) (s.apply wr) (w1.alloc ob)→RelH P n0 β (upd σ id (some (w1.heap.size,cap))) (s.apply wr) (w1.alloc ob) id h) :
    Mem P n0 β (upd σ id (some (w1.heap.size,cap))) (s.apply wr) (w1.alloc ob) ∧
      Ext P n0 (·=id) β σ s w β (upd σ id (some (w1.heap.size,cap))) (s.apply wr) (w1.alloc ob)∧Tidy a (·=id) s (s.apply wr) ∧
      (s.apply wr).getH id=some h:=by
  have gB:=fun n=>State.getB_apply0 s wr hb n
  have gs:∀n,(s.apply wr).getH n=if n=id then some h else(s.apply { hs:=fr }).getH n:=fun n=>by
    unfold State.apply State.getH;simp only[hh,FC,BO];exact BQ _ _ _ _
  have old:∀n e,s.getH n=some e→n≠id:=fun n e he h=>(hf.h n e he h.symm)
  have fget:∀n h',n≠id→(s.apply wr).getH n=some h'→∃h0,s.getH n=some h0∧(h'=h0∨h'={ h0 with frozen:=true,dirty:=true }):=fun n h' hn he=>by
    rw[gs,if_neg hn]at he;exact hfr.get rfl n h' he
  have gg:=g.trans (Grow.alloc w1 ob);have x:Ext P n0 (·=id) β σ s w β (upd σ id (some (w1.heap.size,cap))) (s.apply wr) (w1.alloc ob):=by
    refine⟨gg.os,gg.tape,gg.output,gg.size,fun b hb _=>.inl (gg.old b hb),fun b hb=>?_,fun b e he hn=>?_,fun n e he hn=>?_⟩
    · rcases hb with⟨n,e,he,hb⟩|⟨n,e,cap',he,hfz,hb⟩
      · rw[gB]at he;exact .inl (.inl ⟨n,e,he,hb⟩)
      by_cases hid:n=id
      · rw[hid,BE]at hb;cases hb;exact .inr g.size
      obtain⟨h0,hh0,h1⟩:=fget n e hid he;rw[BK _ _ hid]at hb
      rcases h1 with rfl|rfl
      · exact .inl (.inr ⟨n,e,cap',hh0,hfz,hb⟩)
      grind
    · simp_all
    obtain⟨h0,hh0,h1⟩:=fget n e hn he;refine⟨h0,hh0,BK _ _ hn,?_⟩
    grind
  have hget:(s.apply wr).getH id=some h:=by simp_all
  refine⟨S7 (id:=id) m x (fun n e he=>?_) (fun n e blk he hb=>?_) (fun n h' hn he=>?_) (fun n h' blk cap' hn he hs=>?_) (fun h' he=>?_) (fun blk cap' hs=>?_),x,⟨fun n hfn hn=>?_,fun n e he hd'=>?_,fun n e he hd'=>?_⟩,hget⟩
  · rw[gB]at he;exact⟨e,he,rfl,fun k hk h=>(hf.b n e he).2 (h▸hk)⟩
  · rw[gB]at he;exact gg.old blk (m.ltB he hb)
  · obtain⟨h0,hh0,h1⟩:=fget n h' hn he;refine⟨h0,hh0,?_⟩
    rcases h1 with rfl|rfl
    · exact⟨rfl,rfl,rfl,fun h=>h,BK _ _ hn⟩
    exact⟨rfl,rfl,rfl,(fun h=>by cases h),BK _ _ hn⟩
  · obtain⟨h0,hh0,_⟩:=fget n h' hn he;exact gg.old blk (m.ltH hh0 hs)
  · simp_all
  · rw[BE]at hs;cases hs;refine⟨fun n e he hb=>?_,fun n h' cap'' hn he hs=>?_⟩
    · rw[gB]at he;have:=m.ltB he hb;have:=g.size;omega
    obtain⟨h0,hh0,_⟩:=fget n h' hn he;have:=m.ltH hh0 hs;have:=g.size;omega
  · refine⟨fun k tv hk=>?_,fun k e he=>?_,fun k e he=>?_⟩
    · rw[State.getT_apply0 s wr ht0]at hk;exact hfn.t k tv hk
    · rw[gB]at he;exact hfn.b k e he
    by_cases hk:k=id
    · omega
    obtain⟨h0,hh0,_⟩:=fget k e hk he;exact hfn.h k h0 hh0
  · simp_all
  grind
theorem ADI (hs:Sim P n0 nt β σ s a w) {id:Nat} (hid:Fresh a s id) {o:Oper} {T:TypeId} (hop:o.op=.makeMap T none) (hno:∀ t,AK P t≠.sl (GN P)) :
    let wr:Wr (std E N):={ hs:=[(id,some { e:=GN P,frozen:=false,nw:=true,l:=(std E N).s,dirty:=true })] }
    ∃v σ' w',(execOp a.eval o).run P w=.ok (.value v) w'∧Mem P n0 β σ' (s.apply wr) w'∧Ext P n0 (·=id) β σ s w β σ' (s.apply wr) w'∧Tidy a (·=id) s (s.apply wr)∧RelC P n0 β σ' (s.apply wr) w' (.mp (GN P) id) v:=by
  intro wr;have frn:FrOK s ([]:List (Nat×Option (HEnt (std E N)))):=fun n v hm=>by simp at hm
  obtain⟨q1,q2,q3,q4⟩:=AAi (P:=P) (n0:=n0) (a:=a) hs.M hid frn.pre (h:={ e:=GN P,frozen:=false,nw:=true,l:=[],dirty:=true }) (wr:=wr) rfl rfl rfl rfl rfl (Grow.refl w) (cap:=0) (ob:=.map #[] 0)
    (fun x=>.inr ⟨w.heap.size,rfl,hno,BE _ _ _,⟨_,_,M6 _ _,rfl⟩,Old.new hs.n0le⟩)
  refine⟨.map (some w.heap.size),_,_,?_,q1,q2,q3,⟨hno,_,rfl⟩,fun h2 hh2=>?_⟩
  · have e:(Instr.makeMap T none).run P w=.ok (.map (some w.heap.size)) (w.alloc (.map #[] 0)):=rfl;simp only[execOp,hop,Option.map_none,Sem.run_bind,e,Result.andThen_ok,Sem.run_pure]
  have hh3:=q4.symm.trans hh2;cases hh3;exact⟨rfl,w.heap.size,BE _ _ _,rfl⟩
end
def sV (x:List UInt8):Value:=.string ⟨x.toArray⟩
def Jo:List (List UInt8)→List (List UInt8)
 | []=>[]
 |x::l=>x::go x l
where go (x:List UInt8):List (List UInt8)→List (List UInt8)
 | []=>[]
 |y::l=>cond (x==y) (go x l) (y::go y l)
def QE (w:World) (blk:Nat) (el:TypeId) (n:Nat) (ss:List (List UInt8)):Prop:=∃cells,w.heap[blk]?=some (.cells cells el (0,0))∧cells.size=n∧cells.toList.take ss.length=ss.map sV
structure Turned (w w1:World) (blk:Nat) (el:TypeId) (n:Nat) (ss:List (List UInt8)):Prop where
 os:w1.os=w.os
 tape:w1.tape=w.tape
 output:w1.output=w.output
 size:w1.heap.size=w.heap.size
 other:∀b,b≠blk→w1.heap[b]?=w.heap[b]?
 front:QE w1 blk el n ss
def U8 (P:Program) (f k:Nat):Prop:=match k with
  | 0 => (∀ blk cap el n (ss : List (List UInt8)) w, QE w blk el n ss → ss.length ≤ n → ss.length ≤ 17592186044416 → Calls P f #[.slice (some ⟨blk, 0, none⟩) ss.length cap] w fun e w' => e = .returned (.tuple #[]) ∧ ∃ w1, Turned w w1 blk el n (ss.mergeSort fun x y => decide (x ≤ y)) ∧ Grow w1 w') ∧
      ∀a w,Calls P f #[.slice a 0 0] w fun e w'=>e=.returned (.tuple #[])∧Grow w w'
  | _ => (∀ blk cap el n (ss : List (List UInt8)) w, QE w blk el n ss → ss.length ≤ n → ss.length ≤ cap → ss.length ≤ 17592186044416 → Calls P f #[.slice (some ⟨blk, 0, none⟩) ss.length cap] w fun e w' => e = .returned (.slice (some ⟨blk, 0, none⟩) (Jo ss).length cap) ∧ Turned w w' blk el n (Jo ss)) ∧
      ∀a w,Calls P f #[.slice a 0 0] w fun e w'=>e=.returned (.slice a 0 0)∧w'=w
section
variable {E:Env} {N:Nat} {P:Program} {n0:Nz} {nt:Nat} {β:Nat→Option Nat} {σ:Nat→Option (Nat×Nat)} {s s':St0 E N} {a:Act} {w w':World}
structure GamOK (P:Program) (E:Env) (N:Nat) (cfg:Cfg):Prop where
 ci:∀ci∈cfg.gam,VV P E N ci
 shf:∀p∈cfg.shf,U8 P p.1 p.2
theorem dj {T e':TypeId} (hu:P.underlying T=some (.slice e')) {lo hi:Option Value} {lb ub:Int} {av:Option Addr} {len cap:Nat} {ts:List TypeId}
    (b1:(lo=none∧lb=0)∨∃k,lo=some (.int k lb)) (b2:(hi=none∧ub=len)∨∃k,hi=some (.int k ub)) (hts:AW P e'=some ts) (hc:len≤cap)
    (c1:0≤lb) (c2:lb≤ub) (c3:ub≤(len:Int)) :
    (Instr.sliceAt T (.slice av len cap) lo hi none).run P w=.ok (.slice (if cap=lb.toNat then av else av.map (·.add (lb.toNat*ts.length))) (ub.toNat-lb.toNat) (cap-lb.toNat)) w:=by
  obtain⟨hsz,hpos⟩:=CL hts;obtain⟨ti,hti⟩:=FD (P:=P) (t:=e') (by omega);have hsb:=O5 (P:=P) (w:=w) (isSl:=true) b1 b2 c1 c2 c3 hc;unfold Instr.sliceAt;rw[Sem.run_bind,run_underlying hu,Result.andThen_ok];simp[Instr.slice,run_underlying hu,hsb,BX hti,hsz]
def Zm (P:Program) (n0:Nz) (β:Nat→Option Nat) (σ:Nat→Option (Nat×Nat)) (s:St0 E N) (a:Act) (w:World) (ctx:List (Nat×Bool)) (o:Oper) (id:Nat) (as:List Bool) (wr:Wr (std E N)):Prop :=
  (∀b∈as,b=true)→∃z β' σ' w',((execOp a.eval o).run P w=.ok (.value z) w'∨((execOp a.eval o).run P w=.ok .skip w'∧z=undef))∧Mem P n0 β' σ' (s.apply { hs:=wr.hs }) w'∧Ext P n0 (·=id) β σ s w β' σ' (s.apply { hs:=wr.hs }) w'∧Tidy a (·=id) s (s.apply { hs:=wr.hs })∧wr.bs=[] ∧
    ((∃d v,o.dst=some d∧wr.ts=[(d,some ⟨ctx,v⟩)]∧RelAV P n0 β' σ' (s.apply { hs:=wr.hs }) w' v z∧∀n,Fresh a s n→n≠id→n∉v.names)∨(o.dst=none∧wr.ts=[]))
theorem xW (hs:Sim P n0 nt β σ s a w) {ctx:List (Nat×Bool)} (hf:Facts a ctx) {id:Nat} (hid:Fresh a s id) {o:Oper} {T:TypeId} {x hi:Operand} {lo:Option Operand} (hop:o.op=.slice T x lo (some hi) none) (hlo:Tm lo=true)
    {c:AC0 E N} (hc:RelC P n0 β σ s w c (a.eval x)) {r:StepRes (std E N)} {m m':Nat} (h:RM.run s (bL P ctx id o.dst T hi c) m=.ok (some r,m')):∃as wr,r=.plain as wr∧Zm P n0 β σ s a w ctx o id as wr:=by
  unfold bL at h
  split at h
  case h_2=>cases zzc h
  rename_i e q e' d heT hd;obtain⟨m1,h0⟩:=zzf h;cases hh:s.getH q with
  |none=>rw[hh]at h0;exact(zzb h0).elim
  |some en =>
    rw[hh]at h0;simp only at h0
    split at h0
    case h_2=>cases zzc h0
    rename_i hg;simp only[zzj,Bool.not_eq_true']at hg;obtain⟨hfz,hg1,hg2⟩:=hg;have he1:=AG.1 hg1;have he2:=AG.1 hg2;subst he2;obtain⟨b,m2,h1,h2⟩:=zza h0;obtain⟨b,rfl⟩:∃j:Int,j=b:=⟨b,rfl⟩;have hr:=zzc h2;refine⟨_,_,(Option.some.inj hr).symm,fun has=>?_⟩;have hb:decide (0≤(0:Int)∧(0:Int)≤b∧b≤((List.length en.l:Nat):Int))=true:=has _ zzl;have hb:=of_decide_eq_true hb;obtain⟨k,hk⟩:=XN hs hf h1;have hu:=Py heT
    rcases hs.M.H q en hh with⟨t,ts,ht,hts,hrl,hm⟩|hM
    case inr=>exact(hM.noSl (t:=T) (by rw[←he1];exact B6 heT)).elim
    rw[←he1]at hts ht;have hlo':(lo.map a.eval=none∧(0:Int)=0)∨∃k,lo.map a.eval=some (.int k 0):=by
      rcases Qe (ctx:=ctx) hlo with rfl|⟨k,rfl⟩
      · exact .inl ⟨rfl,rfl⟩
      exact .inr ⟨k,by simp[Act.eval]⟩
    have run:∀{av:Option Addr} {len cap:Nat},a.eval x=.slice av len cap→en.l.length=len→len≤cap→(execOp a.eval o).run P w=.ok (.value (.slice (if cap=(0:Int).toNat then av else av.map (·.add ((0:Int).toNat*ts.length))) (b.toNat-(0:Int).toNat) (cap-(0:Int).toNat))) w:=by
      intro av len cap hv hl hcp;refine Bv (x:=Instr.sliceAt T (a.eval x) (lo.map a.eval) (some (a.eval hi)) none) (by simp[execOp,hop]) ?_;rw[hv,hk];exact dj hu hlo' (.inr ⟨k,rfl⟩) hts hcp (Int.le_refl _) hb.2.1 (by rw[←hl];exact hb.2.2)
    have hbl:(en.l.take b.toNat).length=b.toNat:=by rw[List.length_take];have:=hb.2.2;omega
    obtain⟨_,hkk⟩:=hc;obtain⟨_,ho⟩:=hkk en hh;have hpv:∀i j,i<b.toNat→AD (en.l.take b.toNat) i j=AD en.l i j:=fun i j hi=>by simp[AD,AB,List.getD,List.getElem?_take,hi]
    let hnew:HEnt (std E N):={ en with l:=en.l.take b.toNat,dirty:=true }
    rcases ho with⟨blk,cap,hsi,hva⟩|⟨hsi,hz,av0,hva⟩
    · rcases hm with⟨hn,_⟩|⟨blk',cap',cells,el,hs',hheap,hel,hsz,hcap,hnw,u,hu1,hrep⟩
      · rw[hn]at hsi;cases hsi
      rw[hs']at hsi;cases hsi;subst hel;have hlen:b.toNat≤en.l.length:=by have:=hb.2.2;omega
      obtain⟨q1,q2,q3,q4⟩:=X0 hs.M hid hh hfz hs' (h:=hnew) (wr:={ hs:=[(q,none),(id,some hnew)] }) (w':=w) rfl rfl rfl rfl hfz rfl rfl rfl rfl (fun _ _=>rfl) hheap (by rw[he1]at ht;exact ht) (by rw[he1]at hts;exact hts)
        (fun r hr=>hrl r (List.mem_of_mem_take hr)) hsz (by show(en.l.take b.toNat).length≤cap;omega) hnw u
        (fun i j hi hj=>hu1 i j (by have:i<(en.l.take b.toNat).length:=hi;omega) hj)
        (fun i j t' hi hj=>by
          have hi':i<b.toNat:=by have:i<(en.l.take b.toNat).length:=hi;omega
          show Rep P w _ t' (u i j) (AD (en.l.take b.toNat) i j);rw[hpv i j hi'];exact hrep i j t' (by omega) hj)
      refine⟨_,β,_,w,.inl (run hva rfl hcap),q1,q2,q3,rfl,.inl ⟨d,one (.own e id),hd,rfl,Ac ?_,fun n _ hn=>by simpa[AV.names,one,AH,AC.names] using hn⟩⟩;have hsl:(Value.slice (if cap=(0:Int).toNat then(some ⟨blk,0,none⟩:Option Addr)else(some (⟨blk,0,none⟩:Addr)).map (·.add ((0:Int).toNat*ts.length))) (b.toNat-(0:Int).toNat) (cap-(0:Int).toNat))=.slice (some ⟨blk,0,none⟩) b.toNat cap:=by
        split<;>simp[Iw]
      rw[hsl];have:=Iv (P:=P) (n0:=n0) (β:=β) (w':=w) (T0:=T) (h:=hnew) (by show _=LK.sl en.e;rw[←he1];exact B6 heT) q4 (BE σ id (some (blk,cap))) (n:=b.toNat) hbl.symm;rw[show hnew.e=e from he1.symm]at this;exact this
    have hl0:en.l=[]:=List.length_eq_zero_iff.1 hz;have hb0:b=0:=by have h2:=hb.2.2;rw[hl0]at h2;have:=hb.2.1;simp at h2;omega
    subst hb0;have hpre:PreOK s [(q,(none:Option (HEnt (std E N))))]:=fun n v hm=>by
      simp only[List.mem_singleton,Prod.mk.injEq]at hm;exact .inl hm.2
    obtain⟨q1,q2,q3,q4⟩:=aG hs.M hid hpre (h:=hnew) (wr:={ hs:=[(q,none)]++[(id,some hnew)] }) rfl rfl rfl rfl (by simp[hnew,hl0]) (by rw[he1]at ht;exact ht) (by rw[he1]at hts;exact hts);refine⟨_,β,_,w,.inl (run hva (by rw[hl0];rfl) (Nat.le_refl _)),q1,q2,q3,rfl,.inl ⟨d,one (.own e id),hd,rfl,Ac ?_,fun n _ hn=>by simpa[AV.names,one,AH,AC.names] using hn⟩⟩;refine⟨⟨T,B6 heT,_,_,_,rfl⟩,fun h2 hh2=>?_⟩;have hh3:some hnew=some h2:=q4.symm.trans hh2;cases hh3;exact⟨he1.symm,.inr ⟨BE _ _ _,by simp[hnew,hl0],av0,by simp⟩⟩
theorem wt (hs:Sim P n0 nt β σ s a w) {ctx:List (Nat×Bool)} (hf:Facts a ctx) {id:Nat} {o:Oper} {T:TypeId} {x lo:Operand} (hop:o.op=.slice T x (some lo) none none)
    {c:AC0 E N} (hc:RelC P n0 β σ s w c (a.eval x)) (hcn:∀n,Fresh a s n→n∉c.names) {r:StepRes (std E N)} {m m':Nat} (h:RM.run s (bm P ctx o.dst T lo c) m=.ok (some r,m')):∃as wr,r=.plain as wr∧Zm P n0 β σ s a w ctx o id as wr:=by
  unfold bm at h
  split at h
  case h_2=>cases zzc h
  rename_i e q e' d heT hd;obtain⟨m1,h0⟩:=zzf h;cases hh:s.getH q with
  |none=>rw[hh]at h0;exact(zzb h0).elim
  |some en =>
    rw[hh]at h0;simp only at h0
    split at h0
    case h_2=>cases zzc h0
    rename_i hg;simp only[zzj,Bool.not_eq_true']at hg;obtain⟨hfz,hg1,hg2⟩:=hg;have he1:=AG.1 hg1;have he2:=AG.1 hg2;subst he2;obtain⟨b,m2,h1,h2⟩:=zza h0;obtain⟨b,rfl⟩:∃j:Int,j=b:=⟨b,rfl⟩;have hr:=zzc h2;refine⟨_,_,(Option.some.inj hr).symm,fun has=>?_⟩;have hb:decide (0≤b∧b≤((List.length en.l:Nat):Int)∧((List.length en.l:Nat):Int)≤((List.length en.l:Nat):Int))=true:=has _ zzl;have hb:=of_decide_eq_true hb;obtain⟨k,hk⟩:=XN hs hf h1;have hu:=Py heT
    rcases hs.M.H q en hh with⟨t,ts,ht,hts,hrl,hm⟩|hM
    case inr=>exact(hM.noSl (t:=T) (by rw[←he1];exact B6 heT)).elim
    rw[←he1]at hts ht;have frn:FrOK s ([]:List (Nat×Option (HEnt (std E N)))):=fun n v hm=>by simp at hm
    have sub:=frn.sub (wr:={ hs:=[] }) rfl rfl;have run:∀{av:Option Addr} {cap:Nat},a.eval x=.slice av en.l.length cap→en.l.length≤cap→(execOp a.eval o).run P w=.ok (.value (.slice (if cap=b.toNat then av else av.map (·.add (b.toNat*ts.length))) (en.l.length-b.toNat) (cap-b.toNat))) w:=by
      intro av cap hv hcp;refine Bv (x:=Instr.sliceAt T (a.eval x) (some (a.eval lo)) none none) (by simp[execOp,hop]) ?_;rw[hv,hk];have:=dj (w:=w) hu (.inr ⟨k,rfl⟩) (.inl ⟨rfl,rfl⟩) hts hcp hb.1 hb.2.1 (Int.le_refl _) (av:=av);simpa using this
    obtain ⟨_,hkk⟩:=hc;obtain ⟨_,ho⟩:=hkk en hh;have fin:∀ {z:Value},(execOp a.eval o).run P w=.ok (.value z) w→RelC P n0 β σ s w (.tail e q b:AC0 E N) z→∃ z β' σ' w',((execOp a.eval o).run P w=.ok (.value z) w'∨((execOp a.eval o).run P w=.ok .skip w'∧z=undef))∧Mem P n0 β' σ' (s.apply { hs:=[] }) w'∧Ext P n0 (·=id) β σ s w β' σ' (s.apply { hs:=[] }) w'∧Tidy a (·=id) s (s.apply { hs:=[] })∧([]:List (Nat×Option (BEnt (std E N))))=[] ∧
        ((∃d' c,o.dst=some d'∧[(d,some (⟨ctx,one (.tail e q b:AC0 E N)⟩:TV (std E N)))]=[(d',some ⟨ctx,c⟩)]∧RelAV P n0 β' σ' (s.apply { hs:=[] }) w' c z∧∀n,Fresh a s n→n≠id→n∉c.names)∨(o.dst=none∧[(d,some (⟨ctx,one (.tail e q b:AC0 E N)⟩:TV (std E N)))]=[])):=fun {z} h1 h2 =>
      ⟨z,β,σ,w,.inl h1,sub.mem hs.M,sub.ext P n0 _ β σ w,Tidy.of_sub frn.pre rfl rfl rfl _,rfl,.inl ⟨d,one _,hd,rfl,Ac ((sub.ext P n0 (fun _=>False) β σ w).relC (fun _ _ h=>h) h2),fun n hn _ hm=>hcn n hn (by simpa[AV.names,one,AH,AC.names] using hm)⟩⟩
    rcases ho with⟨blk,cap,hsi,hva⟩|⟨hsi,hz,av0,hva⟩
    · rcases hm with⟨hn,_⟩|⟨blk',cap',cells,el,hs',hheap,hel,hsz,hcap,hnw,u,hu1,hrep⟩
      · rw[hn]at hsi;cases hsi
      rw[hs']at hsi;cases hsi;refine fin (run hva hcap) ⟨hb.1,⟨T,B6 heT,_,_,_,rfl⟩,fun h2 hh2=>?_⟩;rw[hh]at hh2;cases hh2;refine⟨he1.symm,hb.2.1,_,_,rfl,?_⟩;have:=hb.2.1
      by_cases hq:en.l.length=b.toNat
      · exact .inl hq
      refine .inr ⟨blk,cap,ts,hts,hs',?_⟩;rw[if_neg (by omega)];simp[Iw]
    have hl0:en.l=[]:=List.length_eq_zero_iff.1 hz;refine fin (run (av:=av0) (cap:=0) (by rw[hva,hz]) (by omega)) ⟨hb.1,⟨T,B6 heT,_,_,_,rfl⟩,fun h2 hh2=>?_⟩;rw[hh]at hh2;cases hh2;have:=hb.2.1;exact⟨he1.symm,hb.2.1,_,_,rfl,.inl (by omega)⟩
theorem ZD:∀{ts:List TypeId} {cs:List (AC0 E N)},AX P ts cs=true→cs.length=ts.length
 | [],[],_=>rfl
 | [],_::_,h=>by simp[AX]at h
 |_::_,[],h=>by simp[AX]at h
 |t::ts,c::cs,h=>by
  simp only[AX]at h
  split at h
  ·simp[ZD h]
  cases h
theorem lJ {T:TypeId} {q:Nat} {c:AC0 E N} {en:HEnt (std E N)} {m m':Nat} (h:RM.run s (rC P T c) m=.ok ((q,en),m')) :
    ∃e,c=.mp e q∧s.getH q=some en∧en.frozen=false∧e=GN P∧bZ P T=true:=by
  unfold rC at h
  split at h
  · rename_i e q';obtain⟨m1,h0⟩:=zzf h;cases hh:s.getH q' with
    |none=>rw[hh]at h0;exact(zzb h0).elim
    |some en' =>
      rw[hh]at h0;simp only at h0
      split at h0
      · rename_i hg;have:=zzc h0;cases this;simp only[zzj,Bool.not_eq_true']at hg;exact⟨e,rfl,hh,hg.1,AG.1 hg.2.1.1,hg.2.2⟩
      exact(zzb h0).elim
  exact(zzb h).elim
theorem zi (hs:Sim P n0 nt β σ s a w) {ctx:List (Nat×Bool)} {id:Nat} {o:Oper} {T:TypeId} {x:Operand} (hop:o.op=.call ⟨.builtin .clear,#[x],#[T]⟩)
    {c:AC0 E N} (hc:RelC P n0 β σ s w c (a.eval x)) {r:StepRes (std E N)} {m m':Nat} (h:RM.run s (oJ P o.dst T c) m=.ok (some r,m')):∃as wr,r=.plain as wr∧Zm P n0 β σ s a w ctx o id as wr:=by
  unfold oJ at h
  split at h
  case h_3=>exact(zzb h).elim
  case h_2 =>
    rename_i e q hd;obtain⟨⟨q',en⟩,m5,h9,h10⟩:=zza h;obtain⟨e',he',hh,hfz,he,hmb⟩:=lJ h9;cases he';refine⟨_,_,(Option.some.inj (zzc h10)).symm,fun _=>?_⟩;obtain⟨r,hv,hat,put⟩:=tp (a:=a) hs hc hh hfz;obtain⟨es,c,run,hl⟩:=lX (ty:=o.type) hmb hat;obtain⟨q1,q2,q3⟩:=put [] es c hl (wr:={ hs:=[(q,some { en with l:=[],dirty:=true })] }) rfl rfl rfl;refine⟨.tuple #[],β,σ,_,.inl ?_,q1,q2.weaken (fun _ h=>h.elim),q3.weaken (fun _ h=>h.elim),rfl,.inr ⟨hd,rfl⟩⟩;have hex:execOp a.eval o=(do pure (.value (←Builtin.clear_ #[T] o.type #[a.eval x]))):=by simp[execOp,hop,resolve,invoke,builtin]
    rw[hex,hv];simp[run,Result.andThen]
  rename_i e q i e' heT hd;obtain⟨m1,h0⟩:=zzf h;cases hh:s.getH q with
  |none=>rw[hh]at h0;exact(zzb h0).elim
  |some en =>
    rw[hh]at h0;simp only at h0
    split at h0
    case h_2=>exact(zzb h0).elim
    rename_i z ts hz hts;obtain⟨_,m2,h1,h2⟩:=zza h0;obtain⟨⟨ls,fr,nw⟩,m3,h3,h4⟩:=zza h2;have hr:=zzc h4;have hg:=zzd h1;simp only[zzj,Bool.not_eq_true']at hg;obtain⟨⟨hfz,hg1,hg2⟩,hk,hsc⟩:=hg;have he1:=AG.1 hg1;have he2:=AG.1 hg2;subst he2;have hu:=Py heT;obtain⟨hsz,hpos⟩:=CL hts;obtain⟨ti,v,hi',hiz,hzv,hrz,hnz,hoz⟩:=LW (n0:=n0) (β:=β) (σ:=σ) (s:=s) (w:=w) hz;obtain⟨rfl,rfl⟩:=Ue hsc h3;have frn:FrOK s ([]:List (Nat×Option (HEnt (std E N)))):=fun n v hm=>by simp at hm
    obtain⟨_,_,hll,hlf⟩:=T6 hs.M hrz.1 h3;have hk1:AX P ts z.cs=true:=by
      simp only[K0]at hk
      split at hk
      · assumption
      cases hk
    have hzl:z.cs.length=ts.length:=ZD hk1;have hvl:v.cells.size=ts.length:=by have:=RelCs.length hrz.1;simp at this;omega
    have htz:ti.size=ts.length:=by rw[←hsz];simp[Program.cellsOf,hi']
    obtain⟨i,rfl⟩:∃j:Int,j=i:=⟨i,rfl⟩;obtain⟨i0,_,hkk⟩:=hc;obtain⟨_,hin,av,cap,hva,hor⟩:=hkk en hh;have hin:i≤((List.length en.l:Nat):Int):=hin;have i0:(0:Int)≤i:=i0;have hiN:i.toNat≤en.l.length:=by omega
    rcases hs.M.H q en hh with⟨t,ts2,ht,hts2,hrl,hm⟩|hM
    case inr=>exact(hM.noSl (t:=T) (by rw[←he1];exact B6 heT)).elim
    rw[←he1,hts]at hts2;cases hts2
    let zr:List PV:=ls.map Leaf.pv
    let nl:Rows:=en.l.take i.toNat++List.replicate (en.l.length-i.toNat) zr
    let hnew:HEnt (std E N):={ en with l:=nl,dirty:=true }
    have hnl:nl.length=en.l.length:=by simp[nl];omega
    have hlist:(std E N).ad ((std E N).ag en.l ((std E N).lit .i64 0) i) ((std E N).ap ((std E N).j ((std E N).ag en.l i ((std E N).j en.l))) ls)=nl:=by
      show((en.l.take i.toNat).drop (0:Int).toNat)++List.replicate ((((en.l.take ((en.l.length:Nat):Int).toNat).drop i.toNat).length:Nat):Int).toNat (ls.map Leaf.pv)=nl;simp[nl,zr]
    have hrr:r=.plain [] { hs:=[(q,some hnew)] }:=by
      have:=(Option.some.inj hr).symm;rw[this];show StepRes.plain [] { hs:=[(q,some { en with l:=(std E N).ad ((std E N).ag en.l ((std E N).lit .i64 0) i) ((std E N).ap ((std E N).j ((std E N).ag en.l i ((std E N).j en.l))) ls),dirty:=true })] }=_;rw[hlist]
    refine⟨_,_,hrr,fun has=>?_⟩;have hex:(execOp a.eval o)=(do pure (.value (←Builtin.clear_ #[T] o.type #[a.eval x]))):=by
      simp[execOp,hop,resolve,invoke,builtin]
    have hrowl:∀r∈nl,r.length=ts.length:=fun r hr=>by
      rcases List.mem_append.1 hr with h|h
      · exact hrl r (List.mem_of_mem_take h)
      rw[List.eq_of_mem_replicate h];simp[zr];omega
    by_cases hq:en.l.length=i.toNat
    ·
      have hne:nl=en.l:=by simp[nl,hq,List.take_of_length_le (Nat.le_of_eq hq)]
      have hrun:(Builtin.clear_ #[T] o.type #[a.eval x]).run P w=.ok (.tuple #[]) w:=by
        rw[hva,hq,Nat.sub_self];cases av<;>simp[Builtin.clear_,run_underlying hu]
      obtain⟨q1,q2,q3⟩:=RF (a:=a) hs.M hh hfz (h:=hnew) (wr:={ hs:=[(q,some hnew)] }) (w':=w) rfl rfl rfl rfl hfz rfl (fun _=>hnl) rfl rfl rfl rfl (fun _ _=>rfl)
        (fun x=>by
          rcases hs.M.H q en hh with⟨t,ts,a1,a2,a3,a4⟩|hM
          case inr=>exact(hM.noSl (t:=T) (by rw[←he1];exact B6 heT)).elim
          refine .inl ⟨t,ts,a1,a2,by show∀r∈nl,_;rw[hne];exact a3,?_⟩
          rcases a4 with⟨b1,b2⟩|⟨blk,cap,cells,el,b1,b2,b3,b4,b5,b6,vv,b7,b8⟩
          · exact .inl ⟨b1,by show nl=_;rw[hne];exact b2⟩
          refine .inr ⟨blk,cap,cells,el,b1,b2,b3,b4,by show nl.length≤_;rw[hne];exact b5,b6,vv,by show∀i j,i<nl.length→_;rw[hne];exact b7,fun i j t' h1 h2=>?_⟩;show Rep P w _ t' (vv i j) (AD nl i j);rw[hne];exact x.rep (b8 i j t' (by have h1:i<nl.length:=h1;rwa[hne]at h1) h2))
      exact⟨.tuple #[],β,σ,w,.inl (by rw[hex];simp[hrun]),q1,q2.weaken (fun _ h=>h.elim),q3.weaken (fun _ h=>h.elim),rfl,.inr ⟨hd,rfl⟩⟩
    rcases hor with hor|⟨blk,cap2,ts3,hts3,hsq,hav⟩
    · exact(hq hor).elim
    rw[hts]at hts3;cases hts3
    rcases hm with⟨hn,_⟩|⟨blk',cap',cells,el,hs',hheap,hel,hsz2,hcap,hnw,u,hu1,hrep⟩
    · rw[hn]at hsq;cases hsq
    rw[hs']at hsq;cases hsq
    let n:=en.l.length-i.toNat
    have hnpos:0<n:=by show 0<en.l.length-i.toNat;omega
    let us:List Value:=(Builtin.zeroCells v.cells n).toList
    have husl:us.length=n*ts.length:=by simp[us,size_zeroCells,hvl]
    have hget:∀k,k<n*ts.length→us[k]?=v.cells[k%ts.length]?:=fun k hk=>by
      have h1:k<(Builtin.zeroCells v.cells n).size:=by rw[size_zeroCells,hvl];exact hk
      simp only[us,Array.getElem?_toList];rw[Array.getElem?_eq_getElem h1];simp only[Builtin.zeroCells,Array.getElem_map,Array.getElem_range,hvl];rw[Array.getElem?_eq_getElem (by rw[hvl];exact Nat.mod_lt _ hpos)];simp[Nat.mod_lt _ hpos,hvl]
    have hone:∀x∈us,x.oneCell'=true:=fun x hx=>by
      obtain⟨k,hk⟩:=List.getElem?_of_mem hx;have hklt:k<n*ts.length:=by rw[←husl];exact(List.getElem?_eq_some_iff.1 hk).1
      rw[hget k hklt]at hk;exact hrz.1.one x (by rw[Array.mem_toList_iff];exact Array.mem_of_getElem? hk)
    have hle:i.toNat*ts.length+us.length≤cells.size:=by
      rw[husl,hsz2,←Nat.add_mul];exact Nat.mul_le_mul_right _ (by show i.toNat+(en.l.length-i.toNat)≤cap2;omega)
    have hst:=run_storeCells_at (P:=P) blk (i.toNat*ts.length) el us 0 cells w hheap (by simpa using hle) hone
    let w2:=w.setRow blk (Pr cells (i.toNat*ts.length) us)
    have hrun:(Builtin.clear_ #[T] o.type #[a.eval x]).run P w=.ok (.tuple #[]) w2:=by
      rw[hva,hav];obtain⟨n',hn'⟩:∃n',en.l.length-i.toNat=n'+1:=⟨en.l.length-i.toNat-1,by omega⟩;have hst2:(storeCells ⟨blk,i.toNat*ts.length,none⟩ (Builtin.zeroCells v.cells (n'+1)).toList).run P w=.ok () w2:=by
        have:us=(Builtin.zeroCells v.cells (n'+1)).toList:=by show(Builtin.zeroCells v.cells (en.l.length-i.toNat)).toList=_;rw[hn']
        rw[←this];simpa[w2,Pr,List.append_assoc] using hst
      rw[hn'];simp[Builtin.clear_,run_underlying hu,hzv,hst2]
    have hpl:∀i' j,i'<i.toNat→AD nl i' j=AD en.l i' j:=fun i' j h=>by
      simp only[AD,AB,List.getD,nl];rw[List.getElem?_append_left (by rw[List.length_take];omega),List.getElem?_take,if_pos h]
    have hpr:∀i' j,i.toNat≤i'→i'<en.l.length→AD nl i' j=AA zr j:=fun i' j h1 h2=>by
      simp only[AD,AB,List.getD,nl];rw[List.getElem?_append_right (by rw[List.length_take];omega)];rw[List.length_take,List.getElem?_replicate,if_pos (by omega)];rfl
    have hs1:∀b,(∀cap,σ q≠some (b,cap))→w2.heap[b]?=w.heap[b]?:=fun b hb=>setRow_other w blk b _ (fun e=>hb cap2 (e▸hs'))
    obtain⟨q1,q2,q3⟩:=RF (a:=a) hs.M hh hfz (h:=hnew) (wr:={ hs:=[(q,some hnew)] }) (w':=w2) rfl rfl rfl rfl hfz rfl (fun _=>hnl) rfl rfl rfl (by simp[w2]) hs1
      (fun xx=>by
        refine .inl ⟨t,ts,ht,by rw[←hts,he1],hrowl,.inr ⟨blk,cap2,Pr cells (i.toNat*ts.length) us,el,hs',setRow_heap w blk cells _ _ _ hheap,hel,by rw[mt hle];exact hsz2,by show nl.length≤cap2;rw[hnl];exact hcap,hnw,
          fun i' j=>if i.toNat≤i' then v.cells.getD j undef else u i' j,fun i' j hi' hj=>?_,fun i' j t' hi' hj=>?_⟩⟩
        · have hi2:i'<en.l.length:=by have:i'<nl.length:=hi';omega
          rw[pZ hle]
          by_cases hc:i.toNat≤i'
          · have h1:i.toNat * ts.length≤i' * ts.length:=Nat.mul_le_mul_right _ hc;have h2:i' * ts.length+j<i.toNat * ts.length+us.length:=by
              rw[husl,←Nat.add_mul];have:(i'+1)*ts.length≤(i.toNat+n)*ts.length:=Nat.mul_le_mul_right _ (by show i'+1≤i.toNat+(en.l.length-i.toNat);omega);rw[Nat.add_mul,Nat.one_mul]at this;omega
            rw[if_pos ⟨by omega,h2⟩];simp only[hc,if_true];have e2:i'*ts.length+j-i.toNat*ts.length=(i'-i.toNat)*ts.length+j:=by rw[Nat.sub_mul];omega
            have h3:(i'-i.toNat)*ts.length+j<n*ts.length:=by
              have:(i'-i.toNat+1)*ts.length≤n*ts.length:=Nat.mul_le_mul_right _ (by show i'-i.toNat+1≤en.l.length-i.toNat;omega);rw[Nat.add_mul,Nat.one_mul]at this;omega
            rw[e2,hget _ h3,Nat.add_comm,Nat.mul_comm,Nat.add_mul_mod_self_left,Nat.mod_eq_of_lt hj];simp[hvl,hj]
          have h1:(i'+1)*ts.length≤i.toNat*ts.length:=Nat.mul_le_mul_right _ (by omega);rw[Nat.add_mul,Nat.one_mul]at h1;rw[if_neg (by omega)];simp only[hc,if_false];exact hu1 i' j hi2 hj
        have hi2:i'<en.l.length:=by have:i'<nl.length:=hi';omega
        have hj':j<ts.length:=(List.getElem?_eq_some_iff.1 hj).1;show Rep P w2 _ t' (if i.toNat≤i' then v.cells.getD j undef else u i' j) (AD nl i' j)
        by_cases hc:i.toNat≤i'
        · rw [if_pos hc,hpr i' j hc hi2];have:=hlf ts (s.apply { hs:=[] }) hk1 (frn.sub rfl rfl) (frn.frz rfl) true (fun h=>h) j t' (v.cells.getD j undef) hj (by simp [hvl,hj']);have hgo:Rep P w (StB n0 β σ s hnew.nw) t' (v.cells.getD j undef) (AA zr j):=by
            refine Rep.mono (w':=w) (St':=StB n0 β σ s hnew.nw) this (fun b _ hlt=>⟨.inl rfl,hlt⟩) (fun b hb hlt=>?_);refine⟨fun hm=>hb.1 ?_,hb.2.mono (fun _=>rfl)⟩
            rcases hm with⟨n,e,he,hb⟩|⟨n,e,cap3,he,hf,hb⟩
            · exact .inl ⟨n,e,by rw[State.getB_apply0 s _ rfl];exact he,hb⟩
            exact .inr ⟨n,e,cap3,by rw[State.getH_apply0 s _ rfl];exact he,hf,hb⟩
          exact xx.rep hgo
        rw[if_neg hc,hpl i' j (by omega)];exact xx.rep (hrep i' j t' hi2 hj))
    exact⟨.tuple #[],β,σ,w2,.inl (by rw[hex];simp[hrun]),q1,q2.weaken (fun _ h=>h.elim),q3.weaken (fun _ h=>h.elim),rfl,.inr ⟨hd,rfl⟩⟩
theorem vh {cfg:Cfg} {o:Oper} {sp:Spec} (h:Qu cfg o.op=some sp):0<BW P o:=by
 unfold Qu at h
 split at h
 all_goals first|(rename_i hop;unfold BW;rw[hop];exact Nat.one_pos)|(rename_i hop;unfold BW;rw[hop];exact Nat.succ_pos 15)|cases h
theorem sH {c:AC0 E N} {z:Int} {m m':Nat} (h:RM.run s (nz c) m=.ok (z,m')):c=.int .i64 z:=by
 unfold nz at h
 split at h
 ·rw[zzc h]
 exact(zzb h).elim
theorem y5 {c:AC0 E N} {z:Bool} {m m':Nat} (h:RM.run s (vN c) m=.ok (z,m')):c=.bool z:=by
 unfold vN at h
 split at h
 ·rw[zzc h]
 exact(zzb h).elim
theorem cm {info:TypeId→Option TypeInfo} {fs:Array Field} {i:TypeInfo} (h:Made.reckonStruct info fs=some i):∃o,i.desc=.struct o:=by
 unfold Made.reckonStruct at h;obtain⟨r,_,h⟩:=Option.bind_eq_some_iff.1 h;simp only[pure]at h
 repeat' split at h
 all_goals (cases h;exact⟨_,rfl⟩)
theorem rQ {info:TypeId→Option TypeInfo} {d:TypeDesc} {i:TypeInfo} {e:TypeId} (h:Made.reckon info d=some i) (hd:i.desc=.slice e):∃j,info e=some j:=by
 cases d with
 |slice e' =>
  obtain⟨j,hj,h⟩:=Option.bind_eq_some_iff.1 h;obtain⟨s,_,h⟩:=Option.bind_eq_some_iff.1 h;cases h;cases hd;exact⟨j,hj⟩
 |struct fs=>obtain⟨o,ho⟩:=cm h;rw[ho]at hd;cases hd
 |pointer e' =>
  obtain⟨j,hj,h⟩:=Option.bind_eq_some_iff.1 h;simp only at h
  repeat' split at h
  all_goals first|(cases h;done)|(obtain⟨s,_,h⟩:=Option.bind_eq_some_iff.1 h;cases h;cases hd)
 |map k e' =>
  obtain⟨j,hj,h⟩:=Option.bind_eq_some_iff.1 h;obtain⟨j,hj,h⟩:=Option.bind_eq_some_iff.1 h;obtain⟨j,hj,h⟩:=Option.bind_eq_some_iff.1 h;obtain⟨j,hj,h⟩:=Option.bind_eq_some_iff.1 h;cases h;cases hd
 |chan c e' =>
  obtain⟨j,hj,h⟩:=Option.bind_eq_some_iff.1 h;obtain⟨j,hj,h⟩:=Option.bind_eq_some_iff.1 h;cases h;cases hd
 |func ps rs v =>
  obtain⟨j,hj,h⟩:=Option.bind_eq_some_iff.1 h;cases h;cases hd
 |array n e' =>
  obtain⟨j,hj,h⟩:=Option.bind_eq_some_iff.1 h;obtain⟨s,hs,h⟩:=Option.bind_eq_some_iff.1 h;cases h;cases hd
 |_=>cases h
theorem ABO (h:noSl P (GN P)=true) (hlt:GN P<ptB) (hp:ptE P (GN P)=false) (t:TypeId):AK P t≠.sl (GN P):=fun hc=>by
 have hu:=tz hc hlt hp;unfold noSl at h;rw[List.all_eq_true]at h;have none:∀f,Made.infoAt P.toTables f (GN P)=none:=fun f=>by
  cases f with
  |zero=>rfl
  |succ f =>
   unfold Made.infoAt;have h1:¬GN P<P.toTables.types.size:=by unfold GN;show¬P.types.size+2<P.types.size;omega
   rw[if_neg h1];have h2:GN P-P.toTables.types.size=2:=by unfold GN;show P.types.size+2-P.types.size=2;omega
   rw[h2];have h3:Made.decode 2=none:=by decide
   rw[h3];rfl
 have key:∀(u:TypeId) (i:TypeInfo),P.info? u=some i→i.desc=.slice (GN P)→False:=fun u i hi hd=>by
  unfold Tables.info? at hi
  split at hi
  ·have hm:i∈P.types.toList:=by
    rw[Array.mem_toList_iff];exact Array.mem_of_getElem? hi
   have:=h i hm;rw[hd]at this;simp only[Bool.not_eq_true',AG.2 rfl]at this;cases this
  rename_i hlt;unfold Made.depth Made.infoAt at hi;rw[if_neg hlt]at hi;obtain⟨d,_,h2⟩:=Option.bind_eq_some_iff.1 hi;obtain⟨j,hj⟩:=rQ h2 hd;rw[none]at hj;cases hj
 unfold Program.underlying at hu
 split at hu
 ·rename_i u _ _ _ _ _ _ _ _ _ _;cases hi:P.info? u with
  |none=>rw[hi]at hu;cases hu
  |some i=>rw[hi]at hu;exact key u i hi (Option.some.inj hu)
 ·rename_i i _ hi;exact key t i hi (Option.some.inj hu)
 cases hu
theorem vG {cfg:Cfg} (hs:Sim P n0 nt β σ s a w) {ctx:List (Nat×Bool)} (hf:Facts a ctx) {id:Nat} (hid:Fresh a s id) {o:Oper} {sp:Spec} (hop:Qu cfg o.op=some sp) (hnb:∀ f k x,sp≠.shf f k x)
    {r:StepRes (std E N)} {m m':Nat} (h:RM.run s (aC P ctx id o.dst sp) m=.ok (some r,m')):∃as wr,r=.plain as wr∧Zm P n0 β σ s a w ctx o id as wr:=by
  unfold Qu at hop
  split at hop
  · rename_i T x lo hi ho
    split at hop
    · rename_i hg;cases hop;simp only[zzj]at hg;obtain⟨c,m1,h1,h2⟩:=zza h;exact xW hs hf hid ho hg.2 (Ci hs hf h1).1 h2
    cases hop
  · rename_i T x lo ho
    split at hop
    · cases hop;obtain⟨c,m1,h1,h2⟩:=zza h;obtain⟨e1,_,e2⟩:=Ci hs hf h1;exact wt hs hf ho e1 e2 h2
    cases hop
  · rename_i args tys ho
    split at hop
    · rename_i x T ha ht;cases hop;obtain⟨c,m1,h1,h2⟩:=zza h;have ha':args=#[x]:=by apply Array.ext';simpa using ha
      have ht':tys=#[T]:=by apply Array.ext';simpa using ht
      subst ha';subst ht';exact zi hs ho (Ci hs hf h1).1 h2
    cases hop
  · rename_i f args tys ho
    split at hop
    · cases hop;exact(hnb _ _ _ rfl).elim
    cases hop
  · rename_i T ho;cases hop
    replace h:RM.run s (pY P ctx id o.dst T) m=.ok (some r,m'):=h
    unfold pY at h
    split at h
    case h_2=>exact(zzb h).elim
    rename_i d hd hg;simp only[zzj,Bool.not_eq_true']at hg;refine⟨_,_,(Option.some.inj (zzc h)).symm,fun _=>?_⟩;obtain⟨v,σ',w',r1,r2,r3,r4,r5⟩:=ADI hs hid ho (ABO hg.2.1 (A7.1 hg.2.2.1) hg.2.2.2);exact⟨v,β,σ',w',.inl r1,r2,r3,r4,rfl,.inl ⟨d,_,hd,rfl,Ac r5,fun n _ hn=>by simpa[AV.names,one,AH,AC.names] using hn⟩⟩
  · rename_i T mm k v ho;cases hop;obtain⟨c,m1,h1,h2⟩:=zza h;obtain⟨kc,m2,h3,h4⟩:=zza h2;obtain⟨x,m3,h5,h6⟩:=zza h4;unfold um at h6
    split at h6
    · rename_i hd;obtain⟨i,m4,h7,h8⟩:=zza h6;obtain⟨z,m5,h9,h10⟩:=zza h8;obtain⟨⟨q,en⟩,m6,h11,h12⟩:=zza h10;obtain⟨e,rfl,hh,hfz,he,hmb⟩:=lJ h11;have hk:=sH h7;subst hk;have hx:=y5 h9;subst hx;refine⟨_,_,(Option.some.inj (zzc h12)).symm,fun _=>?_⟩;have hkv:a.eval k=.int .i64 i:=(Ci hs hf h3).1;have hxv:a.eval v=.bool z:=(Ci hs hf h5).1;obtain⟨r,hv,hat,put⟩:=tp (a:=a) hs (Ci hs hf h1).1 hh hfz;obtain⟨es,c,run,hl⟩:=jC (k:=i) hmb z hat;obtain⟨q1,q2,q3⟩:=put (O9 i z en.l) es c hl (wr:={ hs:=[(q,some { en with l:=O9 i z en.l,dirty:=true })] }) rfl rfl rfl;refine⟨undef,β,σ,_,.inr ⟨?_,rfl⟩,q1,q2.weaken (fun _ h=>h.elim),q3.weaken (fun _ h=>h.elim),rfl,.inr ⟨hd,rfl⟩⟩;simp[execOp,ho,hv,hkv,hxv,run,Result.andThen]
    exact(zzb h6).elim
  · rename_i T mm k ho;cases hop;obtain⟨c,m1,h1,h2⟩:=zza h;obtain⟨kc,m2,h3,h4⟩:=zza h2;have frn:FrOK s ([]:List (Nat×Option (HEnt (std E N)))):=fun n v hm=>by simp at hm
    have sub:=frn.sub (wr:={ hs:=[] }) rfl rfl;unfold uq at h4
    split at h4
    case h_2=>exact(zzb h4).elim
    rename_i d hd;obtain⟨i,m4,h7,h8⟩:=zza h4;obtain⟨⟨q,en⟩,m5,h9,h10⟩:=zza h8;have hk:=sH h7;subst hk;obtain⟨e,rfl,hh,hfz,he,hmb⟩:=lJ h9;refine⟨_,_,(Option.some.inj (zzc h10)).symm,fun _=>?_⟩;have hkv:a.eval k=.int .i64 i:=(Ci hs hf h3).1;obtain⟨_,r,hv,_,_,hat,_⟩:=xL hs (Ci hs hf h1).1 hh;exact⟨.bool (MM i en.l),β,σ,w,.inl (Bv (x:=Instr.lookup T (a.eval mm) (a.eval k) false) (by simp[execOp,ho]) (by rw[hv,hkv];exact jR hmb hat)),sub.mem hs.M,sub.ext P n0 _ β σ w,Tidy.of_sub frn.pre rfl rfl rfl _,rfl,
      .inl ⟨d,_,hd,rfl,Ac rfl,fun n _ hn=>by simp[AV.names,one,AH,AC.names]⟩⟩
  cases hop
theorem O8 {cfg:Cfg} {ctx:List (Nat×Bool)} {g:Option Bool} {o:Oper} {id:Nat} {r:StepRes (std E N)} {m m':Nat}
    (h:RM.run s (zT P cfg ctx g o id) m=.ok (r,m')) :
    (∃sp m1,g=none∧Qu cfg o.op=some sp∧RM.run s (aC P ctx id o.dst sp) m=.ok (some r,m1))∨∃m1,RM.run s (Yc P cfg ctx g o id) m1=.ok (r,m'):=by
  unfold zT at h
  split at h
  · rename_i sp hsp;obtain⟨x,m1,h1,h2⟩:=zza h;cases x with
    |some r' =>
      have:=zzc h2;subst this;exact .inl ⟨sp,m1,rfl,hsp,h1⟩
    |none=>exact .inr ⟨m1,h2⟩
  exact .inr ⟨m,h⟩
theorem US {ctx:List (Nat×Bool)} {id:Nat} {d:Option Nat} {sp:Spec} {r:StepRes (std E N)} {m m':Nat} (h:RM.run s (aC P ctx id d sp) m=.ok (some r,m')):∃as wr,r=.plain as wr:=by
 have take:∀{T:TypeId} {hi:Operand} {c:AC0 E N} {m:Nat},RM.run s (bL P ctx id d T hi c) m=.ok (some r,m')→∃as wr,r=.plain as wr:=fun {T hi c m} h=>by
  unfold bL at h
  split at h
  ·obtain⟨m1,h0⟩:=zzf h
   split at h0
   ·split at h0
    ·obtain⟨b,m2,h1,h2⟩:=zza h0;exact⟨_,_,(Option.some.inj (zzc h2)).symm⟩
    cases zzc h0
   exact(zzb h0).elim
  cases zzc h
 have tail:∀{T:TypeId} {lo:Operand} {c:AC0 E N} {m:Nat},RM.run s (bm P ctx d T lo c) m=.ok (some r,m')→∃as wr,r=.plain as wr:=fun {T lo c m} h=>by
  unfold bm at h
  split at h
  ·obtain⟨m1,h0⟩:=zzf h
   split at h0
   ·split at h0
    ·obtain⟨b,m2,h1,h2⟩:=zza h0;exact⟨_,_,(Option.some.inj (zzc h2)).symm⟩
    cases zzc h0
   exact(zzb h0).elim
  cases zzc h
 cases sp with
 |shf f k x =>
  obtain⟨c,m1,h1,h2⟩:=zza h;unfold oL at h2
  split at h2
  ·obtain⟨m1,h0⟩:=zzf h2
   split at h0
   ·obtain⟨_,m2,h3,h4⟩:=zza h0
    split at h4
    ·exact⟨_,_,(Option.some.inj (zzc h4)).symm⟩
    ·exact⟨_,_,(Option.some.inj (zzc h4)).symm⟩
    exact(zzb h4).elim
   exact(zzb h0).elim
  exact(zzb h2).elim
 |take T x hi=>obtain⟨c,m1,h1,h2⟩:=zza h;exact take h2
 |tail T x lo=>obtain⟨c,m1,h1,h2⟩:=zza h;exact tail h2
 |clr T x =>
  obtain⟨c,m1,h1,h2⟩:=zza h;unfold oJ at h2
  split at h2
  ·obtain⟨m1,h0⟩:=zzf h2
   split at h0
   ·split at h0
    ·obtain⟨_,m2,h3,h4⟩:=zza h0;obtain⟨_,m3,h5,h6⟩:=zza h4;exact⟨_,_,(Option.some.inj (zzc h6)).symm⟩
    exact(zzb h0).elim
   exact(zzb h0).elim
  ·obtain⟨_,_,_,h2⟩:=zza h2;exact⟨_,_,(Option.some.inj (zzc h2)).symm⟩
  exact(zzb h2).elim
 |mkMap T =>
  replace h:RM.run s (pY P ctx id d T) m=.ok (some r,m'):=h
  unfold pY at h
  split at h
  ·exact⟨_,_,(Option.some.inj (zzc h)).symm⟩
  exact(zzb h).elim
 |mapUpd T mm k v =>
  obtain⟨_,_,_,h⟩:=zza h;obtain⟨_,_,_,h⟩:=zza h;obtain⟨_,_,_,h⟩:=zza h;unfold um at h
  split at h
  ·obtain⟨_,_,_,h⟩:=zza h;obtain⟨_,_,_,h⟩:=zza h;obtain⟨_,_,_,h⟩:=zza h;exact⟨_,_,(Option.some.inj (zzc h)).symm⟩
  exact(zzb h).elim
 |mapGet T mm k =>
  obtain⟨_,_,_,h⟩:=zza h;obtain⟨_,_,_,h⟩:=zza h;unfold uq at h
  split at h
  ·obtain⟨_,_,_,h⟩:=zza h;obtain⟨_,_,_,h⟩:=zza h;exact⟨_,_,(Option.some.inj (zzc h)).symm⟩
  exact(zzb h).elim
end
def xQ {E:Env} {N:Nat} (P:Program) (n0:Nz) (β:Nat→Option Nat) (σ:Nat→Option (Nat×Nat)) (s:St0 E N) (a:Act) (w:World) (ctx:List (Nat×Bool)) (o:Oper) (id:Nat) (as:List Bool) (wr:Wr (std E N)):Prop :=
  (∀b∈as,b=true)→∃f vals Q,(execOp a.eval o).run P w=.ok (.enter f vals) w∧Calls P f vals w Q∧∀e w',Q e w'→∃z β' σ',e=.returned z∧Mem P n0 β' σ' (s.apply { bs:=wr.bs,hs:=wr.hs }) w'∧Ext P n0 (·=id) β σ s w β' σ' (s.apply { bs:=wr.bs,hs:=wr.hs }) w'∧Tidy a (·=id) s (s.apply { bs:=wr.bs,hs:=wr.hs }) ∧
    ∃d v,o.dst=some d∧wr.ts=[(d,some ⟨ctx,v⟩)]∧RelAV P n0 β' σ' (s.apply { bs:=wr.bs,hs:=wr.hs }) w' v z∧∀n,Fresh a s n→n≠id→n∉v.names
def jT (l:Rows):Prop:=∀r∈l,∃s,r=[PV.str s]
theorem zn (l:Rows):(Fc l).map Ay=(l.map Ay).mergeSort fun x y=>decide (x≤y):=List.map_mergeSort (fun _ _ _ _=>rfl)
theorem P9 {l:Rows} {r:List PV}:r∈Fc l↔r∈l:=List.mem_mergeSort
theorem NP (l:Rows):(Fc l).length=l.length:=List.length_mergeSort l
theorem aB:∀(x:List UInt8) (l:Rows),(D7.go x l).map Ay=Jo.go x (l.map Ay)
 |_,[]=>rfl
 |x,r::l=>by
  unfold D7.go;show _=cond (x==Ay r) (Jo.go x (l.map Ay)) (Ay r::Jo.go (Ay r) (l.map Ay));cases x==Ay r
  ·exact congrArg (Ay r::·) (aB (Ay r) l)
  exact aB x l
theorem yQ:∀l:Rows,(D7 l).map Ay=Jo (l.map Ay)
 | []=>rfl
 |r::l=>congrArg (Ay r::·) (aB (Ay r) l)
theorem VO:∀{x:List UInt8} {l:Rows} {r:List PV},r∈D7.go x l→r∈l
 |_,[],_,h=>h
 |x,y::l,r,h=>by
  unfold D7.go at h;cases hc:x==Ay y
  ·rw[hc]at h
   rcases List.mem_cons.1 h with rfl|h
   ·exact zzl
   exact zzm _ (VO h)
  rw[hc]at h;exact zzm _ (VO h)
theorem eZ {l:Rows} {r:List PV} (h:r∈D7 l):r∈l:=by
 cases l with
 |nil=>exact h
 |cons y l =>
  rcases List.mem_cons.1 h with rfl|h
  ·exact zzl
  exact zzm _ (VO h)
theorem aW:∀(x:List UInt8) (l:Rows),(D7.go x l).length≤l.length
 |_,[]=>Nat.le_refl _
 |x,y::l=>by
  unfold D7.go;have h1:=aW x l;have h2:=aW (Ay y) l;cases x==Ay y<;>simp<;>omega
theorem eg (l:Rows):(D7 l).length≤l.length:=by
 cases l with
 |nil=>exact Nat.le_refl _
 |cons y l=>exact Nat.succ_le_succ (aW _ l)
theorem wS (s:ByteArray):sV (Ay [PV.str s])=.string s:=by
 show Value.string ⟨s.data.toList.toArray⟩=_;simp
section
variable {E:Env} {N:Nat} {P:Program} {n0:Nz} {nt:Nat} {β:Nat→Option Nat} {σ:Nat→Option (Nat×Nat)} {s s':St0 E N} {a:Act} {w w':World}
theorem ABL {u:TypeId} (h:zt P u=true):∃t,AW P u=some [t]∧AK P t=.str:=by
 unfold zt at h
 split at h
 ·rename_i t h1 h2
  split at h
  ·rename_i h3;exact⟨t,h2,h3⟩
  cases h
 cases h
theorem jG {blk:Nat} {el:TypeId} {n:Nat} {l:Rows} (h:QE w blk el n (l.map Ay)) (hl:jT l) {t:TypeId} (ht:AK P t=.str) (St:Blk→Prop) :
    ∃cells,w.heap[blk]?=some (.cells cells el (0,0))∧cells.size=n∧(∀i j,i<l.length→j<1→cells[i*1+j]?=some (sV (Ay (AB l i))))∧∀(w2:World) i j t',i<l.length→[t][j]?=some t'→Rep P w2 St t' (sV (Ay (AB l i))) (AD l i j):=by
  obtain⟨cells,h1,h2,h3⟩:=h;refine⟨cells,h1,h2,fun i j hi hj=>?_,fun w2 i j t' hi hj=>?_⟩
  · have hj0:j=0:=by omega
    subst hj0;have h4:(cells.toList.take (l.map Ay).length)[i]?=some (sV (Ay (AB l i))):=by
      rw[h3];simp[AB,List.getD,zzn hi]
    rw[List.getElem?_take,if_pos (by simpa using hi),Array.getElem?_toList]at h4;simpa using h4
  have hj0:j=0:=by have:=(List.getElem?_eq_some_iff.1 hj).1;simp at this;exact this
  subst hj0;simp at hj;subst hj;obtain⟨z,hz⟩:=hl (AB l i) (by simp[AB,List.getD,zzn hi]);unfold AD;rw[hz,wS];exact .str ht
theorem yb (hs:Sim P n0 nt β σ s a w) {ctx:List (Nat×Bool)} {id:Nat} (hid:Fresh a s id) {o:Oper} {f k:Nat} (hB:U8 P f k) {x:Operand} {args:Array Operand} {tys:Array TypeId} (hargs:args.toList=[x])
    (hop:o.op=.call ⟨.value (.func f),args,tys⟩) {c:AC0 E N} (hc:RelC P n0 β σ s w c (a.eval x)) {r:StepRes (std E N)} {m m':Nat} (h:RM.run s (oL P ctx id o.dst f k c) m=.ok (some r,m')) :
    ∃as wr,r=.plain as wr∧xQ P n0 β σ s a w ctx o id as wr:=by
  unfold oL at h
  split at h
  case h_2=>exact(zzb h).elim
  rename_i fn e q hfn;obtain⟨m1,h0⟩:=zzf h;cases hh:s.getH q with
  |none=>rw[hh]at h0;exact(zzb h0).elim
  |some en =>
    rw[hh]at h0;obtain⟨_,m2,h1,h2⟩:=zza h0;have hg:=zzd h1;simp only[zzj,Bool.not_eq_true']at hg;obtain⟨⟨q4,q5⟩,hfz,he,hst⟩:=hg;have he:=AG.1 he;subst he;obtain⟨t0,ht1,ht2⟩:=ABL hst;have hev:a.eval (.func f)=.func (.func f) #[] #[]:=rfl;have hnb:fn.body.isNone=false:=by cases hb:fn.body<;>simp_all
    have hex:(execOp a.eval o).run P w=.ok (.enter f #[a.eval x]) w:=by
      have harr:args.map a.eval=#[a.eval x]:=by apply Array.ext';simp[hargs]
      simp only[beq_eq_false_iff_ne,ne_eq]at q5;rw[←harr];simp[execOp,hop,resolve,Deferred.ofValue,hev,invoke,callFunc,hfn,q5,hnb];intro hbn;rw[hbn]at q4;cases q4
    obtain⟨⟨t,ht,_⟩,hk⟩:=hc;obtain⟨_,ho⟩:=hk en hh
    rcases hs.M.H q en hh with⟨t2,ts,r1,r2,r3,r4⟩|hM
    case inr=>exact(hM.noSl ht).elim
    rw[ht1]at r2;cases r2;have hrl:∀{L:Rows},jT L→∀r∈L,r.length=[t0].length:=fun hL r hr=>by obtain⟨z,rfl⟩:=hL r hr;rfl
    have hform:(a.eval x=.slice none 0 0∧False)∨(∃av,a.eval x=.slice av 0 0∧en.l=[]∧σ q=none)∨∃blk cap,a.eval x=.slice (some ⟨blk,0,none⟩) en.l.length cap∧σ q=some (blk,cap)∧QE w blk en.e (cap*1) (en.l.map Ay)∧en.l.length≤cap∧Old n0 en.nw ⟨blk,true⟩∧jT en.l:=by
      rcases ho with⟨blk,cap,hsi,hva⟩|⟨hsi,hz,av0,hva⟩
      · refine .inr (.inr ⟨blk,cap,hva,hsi,?_⟩)
        rcases r4 with⟨hn,_⟩|⟨blk',cap',cells,el,p1,p2,p3,p4,p5,p6,u,p7,p8⟩
        · rw[hn]at hsi;cases hsi
        rw[p1]at hsi;cases hsi;have cell:∀i (hi:i<en.l.length),∃z,u i 0=.string z∧en.l[i]=[PV.str z]:=fun i hi=>by
          have h6:=p8 i 0 t0 hi rfl;have hlen:=r3 en.l[i] (List.getElem_mem hi)
          match hr:en.l[i],hlen with
          | [p],_ =>
            have h7:AD en.l i 0=p:=by simp[AD,AB,AA,List.getD,zzn hi,hr]
            rw[h7]at h6;generalize u i 0=z0 at h6;cases h6 with
            |str _=>exact⟨_,rfl,rfl⟩
            |_=>simp_all
        refine⟨⟨cells,by rw[p2,p3],p4,?_⟩,p5,p6,fun r hr=>?_⟩
        · apply List.ext_getElem?;intro i;rw[List.getElem?_take,List.length_map]
          by_cases hi:i<en.l.length
          · obtain⟨z,h8,h9⟩:=cell i hi;have h5:=p7 i 0 hi (by simp);simp only[List.length_singleton,Nat.mul_one,Nat.add_zero]at h5;rw[if_pos hi,Array.getElem?_toList,h5,h8];simp only[List.getElem?_map,zzn hi,Option.map_some,h9,wS]
          rw[if_neg hi];simp[Nat.not_lt.1 hi]
        obtain⟨i,hi,rfl⟩:=List.mem_iff_getElem.1 hr;obtain⟨z,_,h9⟩:=cell i hi;exact⟨z,h9⟩
      exact .inr (.inl ⟨av0,hva,List.length_eq_zero_iff.1 hz,hsi⟩)
    have lenOf:∀{as:List Bool},(std E N).ab ((std E N).j en.l) 16∈as→(∀b∈as,b=true)→en.l.length≤17592186044416:=fun hm has=>by
      have:=of_decide_eq_true (has _ hm);have h9:((List.length en.l:Nat):Int)≤17592186044416:=this.2.1;omega
    split at h2
    · rename_i d hd;refine⟨_,_,(Option.some.inj (zzc h2)).symm,fun has=>?_⟩;have hlen:=lenOf zzl has;have hB0:U8 P f 0:=hB
      rcases hform with⟨_,h9⟩|⟨av,hv,hl0,hsq⟩|⟨blk,cap,hv,hsq,hfr,hcap,hold,hsr⟩
      · exact h9.elim
      · refine⟨_,_,_,hex,by rw[hv];exact hB0.2 av w,fun e2 w' hw=>?_⟩;obtain⟨rfl,g⟩:=hw
        let wr:Wr (std E N):={ hs:=[(q,some { en with l:=Fc en.l,dirty:=true })] }
        obtain⟨p1,p2,p3⟩:=RF (a:=a) hs.M hh hfz (h:={ en with l:=Fc en.l,dirty:=true }) (wr:=wr) (w':=w) rfl rfl rfl rfl hfz rfl (fun _=>NP _) rfl rfl rfl rfl (fun _ _=>rfl) (fun _=>.inl ⟨t2,[t0],r1,ht1,(fun r hr=>by have:=P9.1 hr;rw[hl0]at this;cases this),.inl ⟨hsq,List.length_eq_zero_iff.1 (by show(Fc en.l).length=0;rw[NP,hl0];rfl)⟩⟩);exact⟨.tuple #[],β,σ,rfl,p1.grow g,(p2.trans (g.ext P n0 (fun _=>False) β σ _)).weaken (fun _ h=>h.elim (fun h=>h.elim) (fun h=>h.elim)),p3.weaken (fun _ h=>h.elim),d,_,hd,rfl,⟨#[],rfl,trivial⟩,fun n _ _ hn=>by cases hn⟩
      refine⟨_,_,_,hex,by rw[hv,←List.length_map (f:=Ay)];exact hB0.1 blk cap en.e (cap*1) (en.l.map Ay) w hfr (by rw[List.length_map];omega) (by rw[List.length_map];exact hlen),fun e2 w' hw=>?_⟩;obtain⟨rfl,w1,tu,g⟩:=hw;rw[←zn]at tu;have hsr2:jT (Fc en.l):=fun r hr=>hsr r (P9.1 hr)
      let wr:Wr (std E N):={ hs:=[(q,some { en with l:=Fc en.l,dirty:=true })] }
      obtain⟨cells,c1,c2,c3,c4⟩:=jG (P:=P) tu.front hsr2 ht2 (StB n0 β σ (s.apply wr) en.nw);obtain⟨p1,p2,p3⟩:=RF (a:=a) hs.M hh hfz (h:={ en with l:=Fc en.l,dirty:=true }) (wr:=wr) (w':=w1) rfl rfl rfl rfl hfz rfl (fun _=>NP _) tu.os tu.tape tu.output tu.size (fun b hb=>tu.other b (fun e=>hb cap (e▸hsq)))
        (fun _=>.inl ⟨t2,[t0],r1,ht1,hrl hsr2,.inr ⟨blk,cap,cells,en.e,hsq,c1,rfl,c2,by rw[show(Fc en.l).length=en.l.length from NP _];exact hcap,hold,fun i _=>sV (Ay (AB (Fc en.l) i)),c3,fun i j t'=>c4 w1 i j t'⟩⟩)
      exact⟨.tuple #[],β,σ,rfl,p1.grow g,(p2.trans (g.ext P n0 (fun _=>False) β σ _)).weaken (fun _ h=>h.elim (fun h=>h.elim) (fun h=>h.elim)),p3.weaken (fun _ h=>h.elim),d,_,hd,rfl,⟨#[],rfl,trivial⟩,fun n _ _ hn=>by cases hn⟩
    · rename_i d hd;refine⟨_,_,(Option.some.inj (zzc h2)).symm,fun has=>?_⟩;have hlen:=lenOf zzl has;have hB1:U8 P f 1:=hB
      let hnew:HEnt (std E N):={ en with l:=D7 en.l,dirty:=true }
      have own:∀{σ' w'} {av:Option Addr} {n cap:Nat},RelC P n0 β σ' (s.apply { hs:=[(q,none),(id,some hnew)] }) w' (.own en.e id) (.slice av n cap)→RelAV P n0 β σ' (s.apply { bs:=[],hs:=[(q,none),(id,some hnew)] }) w' (one (.own en.e id)) (.slice av n cap):=fun h=>Ac h
      rcases hform with⟨_,h9⟩|⟨av,hv,hl0,hsq⟩|⟨blk,cap,hv,hsq,hfr,hcap,hold,hsr⟩
      · exact h9.elim
      · refine ⟨_,_,_,hex,by rw [hv];exact hB1.2 av w,fun e2 w' hw=>?_⟩;obtain ⟨rfl,rfl⟩:=hw;have hpre:PreOK s [(q,(none:Option (HEnt (std E N))))]:=fun n v hm=>by
          simp only[List.mem_singleton,Prod.mk.injEq]at hm;exact .inl hm.2
        obtain⟨p1,p2,p3,p4⟩:=aG (P:=P) (n0:=n0) (β:=β) (σ:=σ) hs.M hid hpre (h:=hnew) (wr:={ hs:=[(q,none)]++[(id,some hnew)] }) rfl rfl rfl rfl (by simp[hnew,hl0,D7]) r1 ht1;refine⟨_,β,_,rfl,p1,p2,p3,d,_,hd,rfl,own ⟨⟨t,ht,_,_,_,rfl⟩,fun h2 hh2=>?_⟩,fun n _ hn=>by simpa[AV.names,one,AH,AC.names] using hn⟩;have hh3:some hnew=some h2:=p4.symm.trans hh2;cases hh3;exact⟨rfl,.inr ⟨BE _ _ _,by simp[hnew,hl0,D7],av,rfl⟩⟩
      refine⟨_,_,_,hex,by rw[hv,←List.length_map (f:=Ay)];exact hB1.1 blk cap en.e (cap*1) (en.l.map Ay) w hfr (by rw[List.length_map];omega) (by rw[List.length_map];exact hcap) (by rw[List.length_map];exact hlen),fun e2 w' hw=>?_⟩;obtain⟨rfl,tu⟩:=hw;rw[←yQ]at tu⊢;have hsr2:jT (D7 en.l):=fun r hr=>hsr r (eZ hr)
      obtain⟨cells,c1,c2,c3,c4⟩:=jG (P:=P) tu.front hsr2 ht2 (StB n0 β σ s en.nw);obtain⟨p1,p2,p3,p4⟩:=X0 (P:=P) (n0:=n0) (β:=β) (σ:=σ) hs.M hid hh hfz hsq (h:=hnew) (wr:={ hs:=[(q,none),(id,some hnew)] }) (w':=w') rfl rfl rfl rfl hfz tu.os tu.tape tu.output tu.size tu.other c1 r1 ht1
        (hrl hsr2) c2 (by show(D7 en.l).length≤cap;have:=eg en.l;omega) hold (fun i _=>sV (Ay (AB (D7 en.l) i))) c3 (fun i j t'=>c4 w i j t')
      refine⟨_,β,_,rfl,p1,p2,p3,d,_,hd,rfl,own ?_,fun n _ hn=>by simpa[AV.names,one,AH,AC.names] using hn⟩;exact Iv (P:=P) (n0:=n0) (β:=β) (w':=w') (T0:=t) (h:=hnew) ht p4 (BE σ id (some (blk,cap))) (by rw[List.length_map])
    exact(zzb h2).elim
theorem mq:∀{l:List (Nat×Nat)} {f k:Nat},jd l f=some k→(f,k)∈l
 |(g,k)::l,f,k',h=>by
  unfold jd at h
  split at h
  ·rename_i hb;cases h;rw[AG.1 hb];exact zzl
  exact zzm _ (mq h)
 | [],_,_,h=>by cases h
theorem xj {cfg:Cfg} (hB:∀ p∈cfg.shf,U8 P p.1 p.2) (hs:Sim P n0 nt β σ s a w) {ctx:List (Nat×Bool)} (hf:Facts a ctx) {id:Nat} (hid:Fresh a s id) {o:Oper} {sp:Spec} (hop:Qu cfg o.op=some sp)
    {r:StepRes (std E N)} {m m':Nat} (h:RM.run s (aC P ctx id o.dst sp) m=.ok (some r,m')):∃as wr,r=.plain as wr∧(Zm P n0 β σ s a w ctx o id as wr∨xQ P n0 β σ s a w ctx o id as wr):=by
  by_cases hnb:∀f k x,sp≠.shf f k x
  · obtain⟨as,wr,h1,h2⟩:=vG hs hf hid hop hnb h;exact⟨as,wr,h1,.inl h2⟩
  have:∃f k x,sp=.shf f k x:=by
    cases sp<;>first|exact⟨_,_,_,rfl⟩|exact(hnb fun _ _ _ e=>by cases e).elim
  obtain⟨f,k,x,rfl⟩:=this;unfold Qu at hop
  split at hop
  all_goals first|(split at hop<;>cases hop;done)|(cases hop;done)|skip
  rename_i f' args tys ho
  split at hop
  case h_2=>cases hop
  rename_i k' x' hb ha;cases hop;obtain⟨c,m1,h1,h2⟩:=zza h;obtain⟨as,wr,h3,h4⟩:=yb hs hid (hB _ (mq hb)) ha ho (Ci hs hf h1).1 h2;exact⟨as,wr,h3,.inr h4⟩
end
section
variable {E:Env} {N:Nat} {P:Program} {cfg:Cfg} {n0 n0':Nz} {nt:Nat} {β β':Nat→Option Nat} {σ σ':Nat→Option (Nat×Nat)} {s s':St0 E N} {a:Act} {w w':World}
theorem lw {o:Oper} (h:uy P o.op=true):0<BW P o:=by
 unfold uy at h;unfold BW
 grind
theorem mf:∀{gam:List CI} {f:Nat} {fns:List Nat} {ci:CI},W8 gam f fns=some ci→ci∈gam∧ci.f=f∧ci.fns=fns
 |c::l,f,fns,ci,h=>by
  simp only[W8]at h
  split at h
  ·rename_i hb;cases h;simp only[zzj]at hb;exact⟨zzl,AG.1 hb.1,JP.1 hb.2⟩
  obtain⟨h1,h2⟩:=mf h
  simp_all
 | [],_,_,_,h=>by trivial
theorem ABz {x y u v:Bool} (h:(x && !y&&(u&&v))=true):x=true∧y=false∧u=true∧v=true:=by
 simp_all
theorem Qg {ctx:List (Nat×Bool)} {g:Option Bool} {id:Nat} {d:Option Nat} {f:FuncId} {caps:List (Cap (std E N))} {args:List (AV (std E N))} {sr:StepRes (std E N)} {m m':Nat}
    (h:RM.run s (fJ (O:=std E N) P cfg ctx g id d f caps args) m=.ok (sr,m')) :
    (g=none∧sr=.inl f (args++caps.map fun c=>one c.ac)) ∨
    (∃b n want d' z,g=some b∧ctx=[(n,want)]∧d=some d'∧sr=.inlg b f (args++caps.map fun c=>one c.ac) { ts:=[(d',some ⟨ctx,.val z⟩)] }) ∨
    (caps = [] ∧ ∃ fns ci fn ls fr u dm m2 m3, IV args = some fns ∧ (W8 cfg.gam f fns).map (gK cfg) = some ci ∧ P.funcs[f]? = some fn ∧ fn.body.isSome = true ∧ (fn.name == "runtime.NumGoroutine") = false ∧ Gw P fn.params.toList args = true ∧ (ci.nw || UG args) = true ∧
      RM.run s (Mr (O:=std E N) P ci.gives fn.params.toList [] args) m2=.ok ((ls,fr,u),m3)∧cT ci.gives u fr=true ∧
      sr=.call g f fns ls dm (qy P ctx (Q7 cfg g) id d ci fn fr u)):=by
  have key:∀ {mm mm':Nat},RM.run s (kN (O:=std E N) P cfg ctx g d f (args++caps.map fun c=>one c.ac)) mm=.ok (sr,mm') →
      (g=none∧sr=.inl f (args++caps.map fun c=>one c.ac))∨(∃b n want d' z,g=some b∧ctx=[(n,want)]∧d=some d'∧sr=.inlg b f (args++caps.map fun c=>one c.ac) { ts:=[(d',some ⟨ctx,.val z⟩)] }):=fun {mm mm'} h=>by
    unfold kN at h
    split at h
    · trivial
    · split at h
      · exact .inl ⟨rfl,(zzc h).symm⟩
      · split at h
        · exact .inr ⟨_,_,_,_,_,rfl,rfl,rfl,(zzc h).symm⟩
        trivial
      trivial
  unfold fJ at h;cases caps with
  |cons c0 cr=>grind
  |nil =>
    simp only at h
    split at h
    · grind
    · rename_i fns hfns
      split at h
      · grind
      · rename_i ci hci
        split at h
        · trivial
        · rename_i fn hfn;obtain⟨_,m1,h1,h2⟩:=zza h;obtain⟨⟨ls,fr,u⟩,m2,h3,h4⟩:=zza h2;have hg:=zzd h1;have hg:=ABz hg;simp only at h4
          split at h4
          · rename_i dm hdm hnone;have:=zzc h4
            grind
          trivial
theorem ah (hB:∀ p∈cfg.shf,U8 P p.1 p.2) {ops:Array Oper} {o:Oper} {i id:Nat} {done:List Nat} {Q:Exit→Act→World→Prop} {K:Act→World→Prop} {as:List Bool} {wr:Wr (std E N)} {m m':Nat}
    (hs:Sim P n0 nt β σ s a w) (gi:GI s done) (hg:∀j want d,o.guard=some (j,want)→(ops[j]?).bind (·.dst)=some d→d∈done) (hdst:∀d,o.dst=some d→d∉done∧d<nt)
    (hid:∀n,id≤n→n<id+BW P o→Fresh a s n) (ho:ops[i]?=some o) (h:RM.run s (LC P cfg ops.toList o id) m=.ok (.plain as wr,m')) (has:∀b∈as,b=true)
    (hK:∀a' w',After P n0 nt (fun n=>id≤n∧n<id+BW P o) β σ s a w o.dst wr a' w'→GI (s.apply wr) (o.dst.toList++done)→K a' w'):wpOp P ops Q i K a w:=by
  unfold LC at h;obtain⟨ctx,m1,h1,h2⟩:=zza h;obtain⟨g,m2,h3,h4⟩:=zza h2;obtain⟨c1,c2,c3⟩:=gd hs gi h1 hg;have hnew:∀n,(id≤n∧n<id+BW P o)→Fresh a s n:=fun n h=>hid n h.1 h.2
  have goW:∀(hw:Region.wanted o (yielded ops a.tmps)=true),o.wp P a w K Q→wpOp P ops Q i K a w:=fun hw h=>by
    unfold wpOp;simp_all
  have goN:∀(hw:¬Region.wanted o (yielded ops a.tmps)=true),K (a.put o.dst undef) w→wpOp P ops Q i K a w:=fun hw h=>by
    unfold wpOp;simp_all
  have hcases:=O8 h4;clear h4
  rcases hcases with⟨sp,mm,hg0,hsp,h5⟩|⟨mm,h4⟩
  · have hctx:ctx=[]:=Jj (by rw[hg0]at h3;exact h3);subst hctx;have hf:Facts a []:=fun n b hm=>by simp at hm
    have hcnt:=vh (P:=P) hsp;obtain⟨as',wr',hr,hok⟩:=xj hB hs hf (hid id (Nat.le_refl _) (by omega)) hsp h5;cases hr
    rcases hok with hok|hok
    case inr =>
      obtain⟨f,vals,Q',r1,r2,r3⟩:=hok has;have hw:∀n,n=id→id≤n∧n<id+BW P o:=fun n h=>by omega
      refine goW (c1.2 hf) ?_;unfold Oper.wp;rw[r1];refine Calls.mono r2 (fun e w' hp=>?_);obtain⟨z,β',σ',rfl,q1,q2,q3,d,c,hd,ht,hrel,hnm⟩:=r3 e w' hp;have hwr:wr={ ts:=[(d,some ⟨[],c⟩)],bs:=wr.bs,hs:=wr.hs }:=by cases wr;simp only at ht;subst ht;rfl
      have hdd:=hdst d hd;show K (a.put o.dst z) w';rw[hd]at hK⊢;rw[hwr]at hK;exact hK _ _ (HE hs gi hdd.1 hdd.2 hnew c2 q1 (q2.weaken hw) (q3.weaken hw) (.inl ⟨hf,hrel,fun n hn hnn=>hnm n hn (fun e=>hnn (hw n e))⟩)) (GI.put gi c2 rfl)
    obtain⟨z,β',σ',w',r1,r2,r3,r4,r5,r6⟩:=hok has;have hw:∀n,n=id→id≤n∧n<id+BW P o:=fun n h=>by omega
    refine goW (c1.2 hf) ?_;unfold Oper.wp
    suffices key:K (a.put o.dst z) w' by
      rcases r1 with r1|⟨r1,rfl⟩
      · rw[r1];exact key
      rw[r1];exact key
    rcases r6 with⟨d,c,hd,ht,hrel,hnm⟩|⟨hd,ht⟩
    · have hwr:wr={ ts:=[(d,some ⟨[],c⟩)],bs:=[],hs:=wr.hs }:=by cases wr;simp_all
      have hdd:=hdst d hd;rw[hd]at hK⊢;rw[hwr]at hK;exact hK _ _ (HE (bs:=[]) hs gi hdd.1 hdd.2 hnew c2 r2 (r3.weaken hw) (r4.weaken hw) (.inl ⟨hf,hrel,fun n hn hnn=>hnm n hn (fun e=>hnn (hw n e))⟩)) (GI.put gi c2 rfl)
    have hwr:wr={ ts:=[],bs:=[],hs:=wr.hs }:=by cases wr;simp_all
    rw[hd]at hK⊢;rw[hwr]at hK;refine hK _ _ (Xj hs hnew rfl r2 (r3.weaken hw) (r4.weaken hw)) ?_;trivial
  unfold Yc at h4
  split at h4
  ·
    rename_i T x y hop
    split at h4
    · trivial
    have hctx:ctx=[]:=Jj h3;subst hctx;have hf:Facts a []:=fun n b hm=>by simp at hm
    obtain⟨p,m3,h5,h6⟩:=zza h4;obtain⟨v,m4,h7,h8⟩:=zza h6;obtain⟨wr',m5,h9,h10⟩:=zza h8
    split at h10
    · rename_i hd;have hr:=zzc h10;simp only[StepRes.plain.injEq]at hr;obtain⟨rfl,rfl⟩:=hr;obtain⟨hp,_,_⟩:=Ci hs hf h5;obtain⟨hv,hvn⟩:=Mj hs hf h7;obtain⟨w',r1,r2,r3,r4,r5⟩:=ux (a:=a) hs.n0le hs.M hp hv.1 hvn h9;refine goW (c1.2 hf) ?_;unfold Oper.wp;have:(execOp a.eval o).run P w=.ok .skip w':=by simp[execOp,hop,r1]
      rw[this];show K (a.put o.dst undef) w';rw[hd];refine hK _ _ ?_ ?_
      · rw[hd];exact Xj hs hnew r5 r2 (r3.weaken (fun n h=>h.elim)) (r4.weaken (fun n h=>h.elim))
      rw[hd];intro n tv hn;rw[State.getT_apply0 s _ r5]at hn;exact gi n tv hn
    trivial
  ·
    obtain⟨f,m3,h5,h6⟩:=zza h4
    split at h6
    · split at h6
      · trivial
      obtain⟨_,m40,h60,h61⟩:=zza h6;obtain⟨args,m4,h7,h8⟩:=zza h61
      rcases Qg h8 with⟨_,h9⟩|⟨_,_,_,_,_,_,_,_,h9⟩|⟨_,fns,ci,fn,ls,fr,u,dm,m2,m3,_,_,_,_,_,_,_,_,_,h9⟩<;>cases h9
    trivial
  ·
    rename_i hmem _ _
    split at h4
    · rename_i d hd;have hctx:ctx=[]:=Jj h3;subst hctx;have hf:Facts a []:=fun n b hm=>by simp at hm
      obtain⟨⟨as',c,wr'⟩,m3,h5,h6⟩:=zza h4;have hr:=zzc h6;simp only[StepRes.plain.injEq]at hr;obtain⟨rfl,rfl⟩:=hr;have hpos:=lw hmem;obtain⟨z,β',σ',w',r1,r2,r3,r4,r5,r6,r7⟩:=zS hs hf (hid id (Nat.le_refl _) (by omega)) h5 has;have hwr:wr'={ bs:=wr'.bs,hs:=wr'.hs }:=by cases wr';simp_all
      refine goW (c1.2 hf) ?_;unfold Oper.wp;rw[r1];show K (a.put o.dst z) w';rw[hd];have hdd:=hdst d hd;refine hK _ _ ?_ ?_
      · rw [hd];rw [hwr] at r2 r3 r4 r5;exact HE hs gi hdd.1 hdd.2 hnew c2 r2 (r3.weaken (fun n h=>by omega)) (r4.weaken (fun n h=>by omega)) (.inl ⟨hf,Ac r5,fun n hn hnn=>by
          have:=r6 n hn (fun e=>hnn (by omega));simpa[AV.names,one,AH] using this⟩)
      rw[hd];exact GI.put gi c2 rfl
    · rename_i d hd;obtain⟨c,m3,h5,h6⟩:=zza h4;have hr:=zzc h6;simp only[StepRes.plain.injEq]at hr;obtain⟨rfl,rfl⟩:=hr;have hpos:=lw hmem;have hdd:=hdst d hd
      by_cases hw:Region.wanted o (yielded ops a.tmps)=true
      · have hf:=c1.1 hw;obtain⟨z,β',σ',w',r1,r2,r3,r4,r5,r6,r7⟩:=zF hs hf (hid id (Nat.le_refl _) (by omega)) h5;refine goW hw ?_;unfold Oper.wp;rw[r1];show K (a.put o.dst z) w';rw[hd];refine hK _ _ ?_ ?_
        · rw [hd];exact HE (bs:=[]) (hh:=[]) hs gi hdd.1 hdd.2 hnew c2 r2 (r3.weaken (fun n h=>by omega)) (r4.weaken (fun n h=>by omega)) (.inl ⟨hf,Ac r5,fun n hn hnn=>by
            have:=r6 n hn (fun e=>hnn (by omega));simpa[AV.names,one,AH] using this⟩)
        rw[hd];exact GI.put gi c2 rfl
      refine goN hw ?_;rw[hd];have sub:Sub s (s.apply ({}:Wr (std E N))):=Sub.of_same (fun n=>State.getB_apply0 s _ rfl n) (fun n=>State.getH_apply0 s _ rfl n);refine hK _ _ ?_ ?_
      · rw[hd];exact HE (bs:=[]) (hh:=[]) hs gi hdd.1 hdd.2 hnew c2 (sub.mem hs.M) (sub.ext P n0 _ β σ w) (Tidy.of_sub (fr:=[]) (fun _ _ h=>by simp at h) rfl rfl rfl _) (.inr ⟨fun h=>hw (c1.2 h),rfl⟩)
      rw[hd];exact GI.put gi c2 rfl
    trivial
  split at h4
  · rename_i d hd;obtain⟨⟨as',v,fr⟩,m3,h5,h6⟩:=zza h4;obtain⟨fr',m4,h7,h8⟩:=zza h6;have hr:=zzc h8;simp only[StepRes.plain.injEq]at hr;obtain⟨rfl,rfl⟩:=hr;obtain⟨f1,f2⟩:=dY h7;have hdd:=hdst d hd;have sub:=f1.sub (wr:={ bs:=[],hs:=fr' }) rfl rfl
    by_cases hw:Region.wanted o (yielded ops a.tmps)=true
    · have hf:=c1.1 hw;refine goW hw ?_;have hgt:∀ b,g=some b→b=true:=Vn hs hf h3;obtain ⟨z,r1,r2,r3,r4⟩:=xV hs hf h5 (fun b hb=>by
        have:=has (lQ g b) (List.mem_map.2 ⟨b,hb,rfl⟩);unfold lQ at this
        grind)
      have:=f2 r4;subst this;unfold Oper.wp;rw[r1];show K (a.put o.dst z) w;rw[hd];refine hK _ _ ?_ ?_
      · rw[hd];exact HE (bs:=[]) hs gi hdd.1 hdd.2 hnew c2 (sub.mem hs.M) (sub.ext P n0 _ β σ w) (Tidy.of_sub f1.pre rfl rfl rfl _) (.inl ⟨hf,r2,fun n hn _=>r3 n hn⟩)
      rw[hd];exact GI.put gi c2 rfl
    refine goN hw ?_;rw[hd];refine hK _ _ ?_ ?_
    · rw[hd];exact HE (bs:=[]) hs gi hdd.1 hdd.2 hnew c2 (sub.mem hs.M) (sub.ext P n0 _ β σ w) (Tidy.of_sub f1.pre rfl rfl rfl _) (.inr ⟨fun h=>hw (c1.2 h),rfl⟩)
    rw[hd];exact GI.put gi c2 rfl
  trivial
end
end Go.Px
end
