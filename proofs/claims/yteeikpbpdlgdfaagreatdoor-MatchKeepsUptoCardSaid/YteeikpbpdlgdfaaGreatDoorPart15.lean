/- Part 15. -/
import Derived.Test.YteeikpbpdlgdfaaGreatDoorPart14
set_option linter.unusedVariables false
set_option linter.unusedSimpArgs false
namespace Go.Px
def Dat (P:Program) (w:World) (St:Blk→Prop):Nat→List TypeId→List Value→List PV→Prop
 | _,[],[],_=>True
 | j,t::ts,v::vs,rs=>Rep P w St t v (AE rs j)∧Dat P w St (j+1) ts vs rs
 | _,_,_,_=>False
def CL (P:Program) (t:TypeId) (p:PV):PV:=match AG P t with
 | .int _=>.int (pvI p)
 | .bool=>.bool (pvB p)
 | .str=>.str (pvS p)
 | _=>.rows (pvL p)
def CV (P:Program):Nat→List TypeId→List PV→List PV
 | _,[],_=>[]
 | j,t::ts,rs=>CL P t (AE rs j)::CV P (j+1) ts rs
section
variable {E:Env} {N:Nat} {P:Program} {n0:Nz} {β:Nat→Option Nat} {σ:Nat→Option (Nat×Nat)} {s:St0 E N} {w w':World} {St St':Blk→Prop}
theorem Dat.len:∀ {j:Nat} {l:List TypeId} {cs:List Value} {rs:List PV},Dat P w St j l cs rs→cs.length=l.length
 | _,[],[],_,_=>rfl
 | _,_::_,_::_,_,h=>by simp [Dat.len h.2]
 | _,[],_::_,_,h=>h.elim
 | _,_::_,[],_,h=>h.elim
theorem Dat.mono (hw:∀ b,St b→b.b<w.heap.size→w'.heap[b.b]?=w.heap[b.b]?∧b.b<w'.heap.size) (hs:∀ b,St b→b.b<w.heap.size→St' b):∀ {j:Nat} {l:List TypeId} {cs:List Value} {rs:List PV},Dat P w St j l cs rs→Dat P w' St' j l cs rs
 | _,[],[],_,_=>trivial
 | _,_::_,_::_,_,h=>⟨h.1.mono hw hs,Dat.mono hw hs h.2⟩
 | _,[],_::_,_,h=>h.elim
 | _,_::_,[],_,h=>h.elim
theorem Dat.grow (g:Grow w w') {j:Nat} {l:List TypeId} {cs:List Value} {rs:List PV} (h:Dat P w St j l cs rs):Dat P w' (fun _=>True) j l cs rs :=
 h.mono (fun b _ hlt=>⟨g.old _ hlt,Nat.lt_of_lt_of_le hlt g.size⟩) (fun _ _ _=>trivial)
theorem Dat.get:∀ {j:Nat} {l:List TypeId} {cs:List Value} {rs:List PV},Dat P w St j l cs rs→∀ {k:Nat} {t:TypeId},l[k]?=some t→∃ v,cs[k]?=some v∧Rep P w St t v (AE rs (j+k))
 | _,[],[],_,_,k,t,ht=>by simp at ht
 | j,_::_,_::_,_,h,0,t,ht=>by simp at ht;subst ht;exact ⟨_,rfl,h.1⟩
 | j,_::_,_::_,_,h,k+1,t,ht=>by
  obtain ⟨v,h1,h2⟩:=Dat.get h.2 (k:=k) (by simpa using ht);exact ⟨v,by simpa using h1,by rw [show j+(k+1)=j+1+k by omega];exact h2⟩
 | _,[],_::_,_,h,_,_,_=>h.elim
 | _,_::_,[],_,h,_,_,_=>h.elim
theorem Dat.one:∀ {j:Nat} {l:List TypeId} {cs:List Value} {rs:List PV},Dat P w St j l cs rs→∀ u∈cs,u.oneCell'=true
 | _,[],[],_,_,u,hu=>by simp at hu
 | _,_::_,_::_,_,h,u,hu=>by
  rcases List.mem_cons.1 hu with rfl | hu
  ·exact h.1.one
  ·exact Dat.one h.2 u hu
 | _,[],_::_,_,h,_,_=>h.elim
 | _,_::_,[],_,h,_,_=>h.elim
theorem Dat.args (hst : ∀ b, St b → b.b < w.heap.size → StB n0 noB σ (AL ([] : List (Nat × HEnt (std E N)))) false b) : ∀ {j : Nat} {l : List TypeId} {cs : List Value} {rs : List PV}, Dat P w St j l cs rs → ∀ (q : Nat) (rest : List AZ),
    ∃ acs:List (AC0 E N),AU (O:=std E N) P false q l ((CV P j l rs).map PV.leaf++rest)=some (acs,[],rest)∧RelCs P n0 noB σ (AL []) w acs cs
  | _,[],[],_,_,q,rest=>⟨[],rfl,trivial⟩
  | j,t::ts,v::vs,rs,h,q,rest=>by
    obtain ⟨acs,h1,h2⟩:=Dat.args hst h.2 q rest;have hr:=h.1;generalize hp:AE rs j=p at hr;cases hr with
    | int hl=>exact ⟨.int _ _::acs,by simp [CV,CL,AU,hl,hp,PV.leaf,pvI,h1],rfl,h2⟩
    | bool hl=>exact ⟨.bool _::acs,by simp [CV,CL,AU,hl,hp,PV.leaf,pvB,h1],rfl,h2⟩
    | str hl=>exact ⟨.str _::acs,by simp [CV,CL,AU,hl,hp,PV.leaf,pvS,h1],rfl,h2⟩
    | sl v hl hts hle hrl hc hm hv =>
      refine ⟨.imm _ false _::acs,by simp [CV,CL,AU,hl,hp,PV.leaf,pvL,h1];rfl,⟨t,hl,?_⟩,h2⟩;exact (Rep.sl v hl hts hle hrl hc hm hv).mono (fun b _ hlt=>⟨rfl,hlt⟩) hst
  | _,[],_::_,_,h,_,_=>h.elim
  | _,_::_,[],_,h,_,_=>h.elim
theorem Dat.of_args : ∀ {l : List TypeId} {q j : Nat} {ls rs : List PV} {acs : List (AC0 E N)} {hs : List (Nat × HEnt (std E N))} {rest : List AZ} {cs : List Value}, AU (O := std E N) P false q l (ls.map PV.leaf) = some (acs, hs, rest) → RelCs P n0 β σ s w acs cs →
    (∀ k,AE rs (j+k)=AE ls k)→hs=[]∧Dat P w (fun _=>True) j l cs rs
  | [],q,j,ls,rs,acs,hs,rest,cs,h,hr,he=>by
    simp only [AU] at h;cases h;cases cs with
    | nil=>exact ⟨rfl,trivial⟩
    | cons _ _=>exact hr.elim
  | t::ts,q,j,[],rs,acs,hs,rest,cs,h,hr,he=>by simp [AU] at h
  | t::ts,q,j,p::ls,rs,acs,hs,rest,cs,h,hr,he=>by
    have he0:AE rs j=p:=by have:=he 0;simpa [AE] using this
    have he1:∀ k,AE rs (j+1+k)=AE ls k:=fun k=>by
      have:=he (k+1);rw [show j+(k+1)=j+1+k by omega] at this;rw [this];simp [AE]
    simp only [List.map_cons,AU] at h;cases p with
    | int n =>
      simp only [PV.leaf] at h
      split at h
      · rename_i k i hk hlf;cases hlf;obtain ⟨⟨cs1,h1,r1⟩,e1,e2⟩:=zzp.1 h;cases e2;cases cs with
        | nil=>exact hr.elim
        | cons c cs =>
          obtain ⟨a1,a2⟩:=Dat.of_args e1 hr.2 he1;have:c=.int k n:=hr.1;subst this;exact ⟨a1,by rw [he0];exact .int hk,a2⟩
      all_goals first | cases h | (rename_i hlf;cases hlf)
    | bool b =>
      simp only [PV.leaf] at h
      split at h
      all_goals try (rename_i hlf;cases hlf;done)
      · rename_i i hk hlf;cases hlf;obtain ⟨⟨cs1,h1,r1⟩,e1,e2⟩:=zzp.1 h;cases e2;cases cs with
        | nil=>exact hr.elim
        | cons c cs =>
          obtain ⟨a1,a2⟩:=Dat.of_args e1 hr.2 he1;have:c=.bool b:=hr.1;subst this;exact ⟨a1,by rw [he0];exact .bool hk,a2⟩
      all_goals cases h
    | str x =>
      simp only [PV.leaf] at h
      split at h
      all_goals try (rename_i hlf;cases hlf;done)
      · rename_i i hk hlf;cases hlf;obtain ⟨⟨cs1,h1,r1⟩,e1,e2⟩:=zzp.1 h;cases e2;cases cs with
        | nil=>exact hr.elim
        | cons c cs =>
          obtain ⟨a1,a2⟩:=Dat.of_args e1 hr.2 he1;have:c=.string x:=hr.1;subst this;exact ⟨a1,by rw [he0];exact .str hk,a2⟩
      all_goals cases h
    | rows L =>
      simp only [PV.leaf] at h
      split at h
      all_goals try (rename_i hlf;cases hlf;done)
      · rename_i e l0 hk hlf;cases hlf;obtain ⟨⟨cs1,h1,r1⟩,e1,e2⟩:=zzp.1 h;cases e2;cases cs with
        | nil=>exact hr.elim
        | cons c cs =>
          obtain ⟨a1,a2⟩:=Dat.of_args e1 hr.2 he1;obtain ⟨t2,ht2,hrep⟩:=hr.1;refine ⟨a1,?_,a2⟩;rw [he0];cases hrep with
          | sl v h9 hts hl' hr' hc hm hv =>
            have e9:AG P t=AG P t2:=hk.trans ht2.symm;exact .sl v (by rw [e9];exact h9) hts hl' hr' hc (hm.imp id (fun ⟨b,off,x1,_,x2,x3⟩=>⟨b,off,x1,trivial,x2,x3⟩)) (fun i j t' hi hj=>(hv i j t' hi hj).st fun _ _=>trivial)
      all_goals cases h
theorem IJ:∀ {l:List TypeId} {j:Nat} {rs:List PV} {k:Nat} {t:TypeId},l[k]?=some t→AE (CV P j l rs) k=CL P t (AE rs (j+k))
 | [],j,rs,k,t,h=>by simp at h
 | t0::ts,j,rs,0,t,h=>by simp at h;subst h;rfl
 | t0::ts,j,rs,k+1,t,h=>by
  have:=IJ (j:=j+1) (rs:=rs) (k:=k) (t:=t) (l:=ts) (by simpa using h);rw [show j+(k+1)=j+1+k by omega,← this];simp [CV,AE]
theorem Y5 {t:TypeId} {p:PV}:CL P t (CL P t p)=CL P t p:=by
 unfold CL;cases AG P t<;>rfl
theorem Tj {l0:List TypeId} {rs:List PV}:∀ {l:List TypeId} {j:Nat},l0.drop j=l→CV P j l (CV P 0 l0 rs)=CV P j l rs
 | [],j,_=>rfl
 | t::ts,j,h=>by
  have hj:l0[j]?=some t:=by rw [← List.head?_drop,h];rfl
  have hd:l0.drop (j+1)=ts:=by rw [← List.tail_drop,h];rfl
  show CL P t (AE (CV P 0 l0 rs) j)::CV P (j+1) ts (CV P 0 l0 rs)=CL P t (AE rs j)::CV P (j+1) ts rs;rw [Tj hd,IJ hj,Nat.zero_add,Y5]
theorem Dat.of_bound {nw : Bool} {rs r2 : List PV} : ∀ {l : List TypeId} {j q : Nat} {acs : List (AC0 E N)} {hs : List (Nat × HEnt (std E N))} {cs : List Value}, AW (O := std E N) P (fun _ => false) nw rs j q l = some (acs, hs) → RelCs P n0 β σ s w acs cs →
    (∀ k t,l[k]?=some t→AE r2 (j+k)=CL P t (AE rs (j+k)))→Dat P w (StB n0 β σ s nw) j l cs r2
  | [],j,q,acs,hs,cs,h,hr,_=>by
    simp only [AW] at h;cases h;cases cs with
    | nil=>trivial
    | cons _ _=>exact hr.elim
  | t::ts,j,q,acs,hs,cs,h,hr,he=>by
    have he0:AE r2 j=CL P t (AE rs j):=he 0 t rfl;have he1:∀ k t',ts[k]?=some t'→AE r2 (j+1+k)=CL P t' (AE rs (j+1+k)):=fun k t' hk=>by
      have:=he (k+1) t' (by simpa using hk)
      rwa [show j+(k+1)=j+1+k by omega] at this
    simp only [AW] at h;have fin : ∀ {c : AC0 E N} {q' : Nat} {mk : List (AC0 E N) × List (Nat × HEnt (std E N)) → List (AC0 E N) × List (Nat × HEnt (std E N))}, (AW (O := std E N) P (fun _ => false) nw rs (j + 1) q ts).map (fun x => (c :: x.1, x.2)) = some (acs, hs) →
        (∀ v,RelC P n0 β σ s w c v→Rep P w (StB n0 β σ s nw) t v (AE r2 j))→Dat P w (StB n0 β σ s nw) j (t::ts) cs r2:=fun {c q' mk} h hc=>by
      obtain ⟨⟨cs1,h1⟩,e1,e2⟩:=zzp.1 h;cases e2;cases cs with
      | nil=>exact hr.elim
      | cons v cs=>exact ⟨hc v hr.1,Dat.of_bound e1 hr.2 he1⟩
    split at h
    · rename_i k hk;exact fin (q':=0) (mk:=id) h (fun v hv=>by
        have hv:v=.int k (pvI (AE rs j)):=hv;rw [hv,he0];simp only [CL,hk];exact .int hk)
    · rename_i hk;exact fin (q':=0) (mk:=id) h (fun v hv=>by
        have hv:v=.bool (pvB (AE rs j)):=hv;rw [hv,he0];simp only [CL,hk];exact .bool hk)
    · rename_i hk;exact fin (q':=0) (mk:=id) h (fun v hv=>by
        have hv:v=.string (pvS (AE rs j)):=hv;rw [hv,he0];simp only [CL,hk];exact .str hk)
    · rename_i e hk;exact fin (q':=0) (mk:=id) h (fun v hv=>by
        obtain ⟨t2,ht2,hrep⟩:=hv;rw [he0];simp only [CL,hk];cases hrep with
        | sl v h9 hts hl' hr' hc hm hv =>
          have e9:AG P t=AG P t2:=hk.trans ht2.symm;exact .sl v (by rw [e9];exact h9) hts hl' hr' hc hm hv)
    · cases h
def Args (P:Program) (w:World) (U:Nat→Prop):List TypeId→List Value→List PV→Prop
 | [],[],ls=>ls=[]
 | t::ts,v::vs,ls=>∃ l rs rest,AM P t=some l∧ls=CV P 0 l rs++rest∧Dat P w (fun b=>U b.b) 0 l v.cells.toList rs∧(match AN P t with | true=>∃ cs,v=.agg cs | false=>v.oneCell'=true)∧AG P t≠.fn∧Args P w U ts vs rest
 | _,_,_=>False
theorem Args.vals {U : Nat → Prop} (hst : ∀ b, U b.b → b.b < w.heap.size → StB n0 noB σ (AL ([] : List (Nat × HEnt (std E N)))) false b) : ∀ {ts : List TypeId} {vals : List Value} {ls : List PV}, Args P w U ts vals ls →
    ∃ vs:List (AV (std E N)),Ab (O:=std E N) P [] 1 ts [] (ls.map PV.leaf)=some (vs,[])∧RelArgs P n0 noB σ (AL []) w vs vals
  | [],[],ls,h=>by
    have h:ls=[]:=h;subst h;exact ⟨[],rfl,trivial⟩
  | t::ts,v::vals,ls,h=>by
    obtain ⟨l,rs,rest,h1,rfl,h2,h3,h4,h5⟩:=h;obtain ⟨vs,q1,q2⟩:=Args.vals hst h5;obtain ⟨acs,c1,c2⟩:=Dat.args (E:=E) (N:=N) (n0:=n0) (σ:=σ) (fun b hu=>hst b hu) h2 1 (rest.map PV.leaf);refine ⟨.val { agg:=AN P t,cs:=acs }::vs,?_,⟨c2,h3⟩,q2⟩;rw [List.map_append];unfold Ab;cases hl:AG P t with
    | fn=>exact (h4 hl).elim
    | _ =>
      simp only [h1];rw [show ([]:List Bool).headD false=false from rfl,c1];simp only [List.tail_nil,List.length_nil,Nat.add_zero,q1,Option.map_some,List.append_nil]
  | [],_::_,_,h=>h.elim
  | _::_,[],_,h=>h.elim
theorem F5 (hk:Kept (E:=E) (N:=N) P noB (fun _=>none) (AL []) w) (g:Grow w w'):Kept (E:=E) (N:=N) P noB (fun _=>none) (AL []) w':=hk.ext (g.ext P (fun _=>False) noB (fun _=>none) (AL []))
theorem noM {b:Nat}:¬ InM noB σ (AL ([]:List (Nat×HEnt (std E N)))) b:=fun hm=>by
 rcases hm with ⟨_,_,h,_⟩ | ⟨_,_,_,h,_⟩
 ·cases h
 ·cases h
theorem Fq {U : Nat → Prop} {f : FuncId} {nw : Bool} {sk : List Nat} (hv : Bc P E N ⟨f, [], false, nw, [], sk⟩) {fn : Func} (hfn : P.funcs[f]? = some fn) {R : TypeId} (hR : fn.resultTypes.toList = [R]) {lR : List TypeId} (htR : AM P R = some lR) {args : List Value} {ls rs : List PV}
    (he:E f [] ls=some rs) (ha:Args P w U fn.params.toList args ls) (hk:Kept (E:=E) (N:=N) P noB (fun _=>none) (AL []) w) :
    Calls P f args.toArray w fun e w'=>∃ v,e=.returned v∧Grow w w'∧(match AN P R with | true=>∃ cs,v=.agg cs | false=>v.oneCell'=true) ∧
      Dat P w' (fun b=>(nw=true→w.heap.size≤b.b)∧(w.heap.size≤b.b→b.c=true)∧(w.heap.size≤b.b∨U b.b)) 0 lR v.cells.toList (CV P 0 lR rs):=by
  obtain ⟨vs,h1,h2⟩:=Args.vals (E:=E) (N:=N) (n0:=⟨w.heap.size,fun b=>b.b<w.heap.size∧U b.b⟩) (σ:=fun _=>none) (fun b hu hb=>⟨noM,fun e=>(by cases e),.inr ⟨hb,hu⟩⟩) ha;have m0:Mem P ⟨w.heap.size,fun b=>b.b<w.heap.size∧U b.b⟩ noB (fun _=>none) (AL ([]:List (Nat×HEnt (std E N)))) w:=⟨fun _ _ h=>(by cases h),fun _ _ h=>(by cases h),fun _ _ _ _ _ h=>(by cases h),fun _ _ _ _ _ _ _ h=>(by cases h),fun _ _ _ _ _ _ h=>(by cases h)⟩;refine (hv fn hfn ls rs he vs [] h1 ⟨w.heap.size,fun b=>b.b<w.heap.size∧U b.b⟩ (fun _=>none) w args rfl m0 h2 (fun _ _=>rfl) hk).mono (fun e w' hr=>?_);cases e with
  | returned v =>
    obtain ⟨r1,r2,r3,r4,r5,r6⟩:=hr;refine ⟨v,rfl,⟨r1,r2,r3,r4,fun b hb=>r5 b hb noM⟩,?_⟩;obtain ⟨σ',vs',hs',b1,b2,b3,b4⟩:=r6 0;have how:CI.ow ⟨f,[],false,nw,[],sk⟩=fun _=>false:=by funext e;rfl
    rw [how,hR] at b1;simp only [Aq,htR] at b1;cases hbc:AW (O:=std E N) P (fun _=>false) nw rs 0 0 lR with
    | none=>rw [hbc] at b1;cases b1
    | some x =>
      obtain ⟨acs,hh⟩:=x;rw [hbc] at b1;cases b1;obtain ⟨g1,g2⟩:=b3;refine ⟨g2,?_⟩;have hd:=Dat.of_bound (r2:=CV P 0 lR rs) hbc g1 (fun k t hk=>by rw [Nat.zero_add];have:=IJ (P:=P) (j:=0) (rs:=rs) hk;rwa [Nat.zero_add] at this);exact hd.mono (fun b _ hlt=>⟨rfl,hlt⟩) (fun b hb _=>⟨hb.2.1,fun hge=>by
        rcases hb.2.2 with h | h
        · exact h.2
        · have h:b.b<w.heap.size:=h.1;omega,by
        rcases hb.2.2 with h | h
        · exact .inl h.1
        · exact .inr h.2⟩)
  | _=>exact hr.elim
end
end Go.Px
