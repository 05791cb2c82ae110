/- Part 5. -/
import Derived.Test.YteolngdncakekaaGreatPart04
set_option linter.unusedVariables false
set_option linter.unusedSimpArgs false
section
namespace Go.Px
section
variable {E:Env} {N:Nat} {P:Program} {cfg:Cfg} {n0 n0':Nz} {nt:Nat} {β β':Nat→Option Nat} {σ σ':Nat→Option (Nat×Nat)} {s s':St0 E N} {a:Act} {w w':World}
structure Post (P : Program) (n0 : Nz) (nt L : Nat) (D : Nat → Prop) (β : Nat → Option Nat) (σ : Nat → Option (Nat × Nat)) (s : St0 E N) (a : Act) (w : World)
    (β':Nat→Option Nat) (σ':Nat→Option (Nat×Nat)) (s':St0 E N) (a':Act) (w':World):Prop where
  sim:Sim P n0 nt β' σ' s' a' w'
  ext:Ext P (fun n=>L≤n) β σ s w β' σ' s' w'
  cleanB:∀ n e,s'.getB n=some e→e.dirty=false→s.getB n=some e
  cleanH:∀ n e,s'.getH n=some e→e.dirty=false→s.getH n=some e
  defers:a'.defers=a.defers
  tmps:∀ n,¬ D n→a'.tmps.getD n undef=a.tmps.getD n undef
theorem Post.trans {L L' : Nat} {D D' : Nat → Prop} {β'' : Nat → Option Nat} {σ'' : Nat → Option (Nat × Nat)} {s'' : St0 E N} {a' a'' : Act} {w'' : World} (h : Post P n0 nt L D β σ s a w β' σ' s' a' w') (k : Post P n0 nt L' D' β' σ' s' a' w' β'' σ'' s'' a'' w'') (hl : L ≤ L') :
    Post P n0 nt L (fun n=>D n∨D' n) β σ s a w β'' σ'' s'' a'' w'' :=
  ⟨k.sim,(h.ext.trans k.ext).weaken (fun n hn=>hn.elim (fun h=>h) (fun h=>Nat.le_trans hl h)),fun n e h1 h2=>h.cleanB n e (k.cleanB n e h1 h2) h2,fun n e h1 h2=>h.cleanH n e (k.cleanH n e h1 h2) h2,
    k.defers.trans h.defers,fun n hn=>(k.tmps n (fun h=>hn (.inr h))).trans (h.tmps n (fun h=>hn (.inl h)))⟩
theorem O1:∀ {as:List Bool} {m:Option (List PV)} {r:List PV},PX (O:=std E N) as m=some r→(∀ b∈as,b=true)∧m=some r
 | [],m,r,h=>⟨fun b hb=>by simp at hb,h⟩
 | b::as,m,r,h=>by
  have h':(cond b (PX (O:=std E N) as m) none)=some r:=h
  cases b with
  | false=>simp at h'
  | true =>
   obtain ⟨h1,h2⟩:=O1 (as:=as) (by simpa using h')
   exact ⟨fun b hb=>(List.mem_cons.1 hb).elim (fun e=>e) (h1 b),h2⟩
def I9 (s:St0 E N) (n:Nat):Prop:=(∀ k e,s.getB k=some e→n≠k∧n∉AE e.cs)∧∀ k e,s.getH k=some e→n≠k
abbrev Inl (E:Env) (N:Nat):=FuncId→List (AV (std E N))→St0 E N→(AV (std E N)→St0 E N→Option (List PV))→Option (List PV)
def Ya (P:Program) (inl:Inl E N):Prop :=
  ∀ f (args:List (AV (std E N))) (s:St0 E N) k r,inl f args s k=some r→∀ (n0:Nz) β σ (w:World) (vals:List Value),n0.n≤w.heap.size→Mem P n0 β σ s w →
    (∀ n,s.st≤n→I9 s n)→(∀ x∈args,∀ n∈x.names,n<s.st)→RelArgs P n0 β σ s w args vals →
    Calls P f vals.toArray w fun
      | .returned v, w' => ∃ (av : AV (std E N)) (s' : St0 E N) (β' : Nat → Option Nat) (σ' : Nat → Option (Nat × Nat)), k av s' = some r ∧ s'.tm = s.tm ∧ s.st ≤ s'.st ∧ Mem P n0 β' σ' s' w' ∧ Ext P (fun n => s.st ≤ n) β σ s w β' σ' s' w' ∧
          (∀ n e,s'.getB n=some e→e.dirty=false→s.getB n=some e)∧(∀ n e,s'.getH n=some e→e.dirty=false→s.getH n=some e) ∧
          RelAV P n0 β' σ' s' w' av v∧∀ n,s'.st≤n→I9 s' n∧n∉av.names
      | _,_=>False
theorem After.post {id : Nat} {dst : Option Nat} {wr : Wr (std E N)} {a' : Act} {n : Nat} (h : After P n0 nt (fun k => id ≤ k ∧ k < id + n) β σ s a w dst wr a' w') :
    ∃ β' σ',Post P n0 nt id (fun k=>dst=some k) β σ s a w β' σ' (s.apply wr) a' w'∧(∀ k,(∀ j,id≤j→Fresh a s j)→id+n≤k→Fresh a' (s.apply wr) k):=by
  obtain ⟨β',σ',h1,h2,h3,h4,h5,h6,h7⟩:=h
  exact ⟨β',σ',⟨h1,h2.weaken (fun k h=>h.1),h4,h5,h6,fun k hk=>h7 k hk⟩,fun k hf hk=>h3 k (hf k (by omega)) (by omega)⟩
theorem YB {ops:List Oper}:∀ {rest:List Oper} {i:Nat} {bs:List Nat},DX ops i bs rest=true→∀ (k:Nat) (o:Oper),rest[k]?=some o→∀ j want,o.guard=some (j,want)→j<i+k
 | o::rest,i,b::bs,h,k,o',hk,j,want,hg=>by
  simp only [DX] at h
  cases k with
  | zero =>
   simp at hk;subst hk
   rw [hg] at h
   simp only [Bool.and_eq_true] at h
   exact BJ.1 h.1.1.1
  | succ k =>
   have h2:DX ops (i+1) bs rest=true:=by
    split at h
    ·exact h
    ·simp only [Bool.and_eq_true] at h;exact h.2
   have:=YB h2 k o' (by simpa using hk) j want hg
   omega
 | [],_,_,_,k,o',hk,_,_,_=>by simp at hk
 | _::_,_,[],h,_,_,_,_,_,_=>by simp [DX] at h
theorem Ln:∀ (a b:List Oper),AX (a++b)=AX a++AX b
 | [],b=>rfl
 | o::a,b=>by
  simp only [List.cons_append,AX,Ln a b]
  cases o.dst<;>rfl
theorem G8:∀ {l:List Oper} {k:Nat} {o:Oper} {d:Nat},l[k]?=some o→o.dst=some d→d∈AX l
 | x::l,0,o,d,h,hd=>by
  simp at h;subst h
  simp [AX,hd]
 | x::l,k+1,o,d,h,hd=>by
  have:=G8 (l:=l) (k:=k) (by simpa using h) hd
  simp only [AX]
  cases x.dst with
  | none=>exact this
  | some y=>exact List.mem_cons_of_mem _ this
 | [],k,o,d,h,_=>by simp at h
theorem GI.mono {d d':List Nat} (gi:GI s d) (h:∀ x∈d,x∈d'):GI s d':=fun n tv hn g hg=>h _ (gi n tv hn g hg)
theorem Uv (hs : Sim P n0 nt β σ s a w) {ctx : List (Nat × Bool)} (hf : Facts a ctx) : ∀ {ts : List TypeId} {xs : List Operand} {vs : List (AV (std E N))} {m m' : Nat}, RM.run s (WE (O := std E N) P ctx ts xs) m = .ok (vs, m') →
    ∀ x∈vs,∀ n,Fresh a s n→n∉x.names
  | [],[],vs,m,m',h=>by cases RM.ret_ok h;intro x hx;simp at hx
  | t::ts,x::xs,vs,m,m',h=>by
    obtain ⟨v,m1,h1,h2⟩:=RM.bind_ok h
    obtain ⟨r,m2,h3,h4⟩:=RM.bind_ok h2
    cases RM.ret_ok h4
    intro y hy
    rcases List.mem_cons.1 hy with rfl | hy
    · exact (PS hs hf h1).2
    · exact Uv hs hf h3 y hy
  | [],_::_,_,_,_,h=>(RM.fail_ok h).elim
  | _::_,[],_,_,_,h=>(RM.fail_ok h).elim
theorem RelArgs.append:∀ {xs ys:List (AV (std E N))} {us vs:List Value},RelArgs P n0 β σ s w xs us→RelArgs P n0 β σ s w ys vs→RelArgs P n0 β σ s w (xs++ys) (us++vs)
 | [],_,[],_,_,h=>h
 | x::xs,_,u::us,_,h,h'=>⟨h.1,RelArgs.append h.2 h'⟩
 | [],_,_::_,_,h,_=>h.elim
 | _::_,_,[],_,h,_=>h.elim
theorem Ext.relArgs (x:Ext P (fun _=>False) β σ s w β' σ' s' w'):∀ {xs:List (AV (std E N))} {vs:List Value},RelArgs P n0 β σ s w xs vs→RelArgs P n0 β' σ' s' w' xs vs
 | [],[],h=>h
 | y::xs,v::vs,h=>⟨x.relAV (fun _ _ h=>h) h.1,x.relArgs h.2⟩
 | [],_::_,h=>h.elim
 | _::_,[],h=>h.elim
theorem Z9 : ∀ {caps : List (Nat × Nat)} {vs : List Value}, vs.length = caps.length → (∀ (i b o : Nat), caps[i]? = some (b, o) → ∃ x : Value, vs[i]? = some x ∧ I4 β s b o x) →
    RelArgs P n0 β σ s w (caps.map fun (b,o)=>(one (.ptr b o):AV (std E N))) vs
  | [],[],_,_=>trivial
  | (b,o)::caps,v::vs,hl,h=>by
    obtain ⟨x,hx,hr⟩:=h 0 b o rfl
    simp at hx;subst hx
    exact ⟨Aj hr,Z9 (by simpa using hl) (fun i b o hc=>by
      obtain ⟨y,hy,hr2⟩:=h (i+1) b o (by simpa using hc)
      exact ⟨y,by simpa using hy,hr2⟩)⟩
  | [],_::_,hl,_=>by simp at hl
  | _::_,[],hl,_=>by simp at hl
theorem cQ {ops : Array Oper} {o : Oper} {id : Nat} {f : FuncId} {args : List (AV (std E N))} {m m' : Nat} (h : RM.run s (K5 P cfg ops.toList o id) m = .ok (.inl f args, m')) :
    ∃ fop cargs tys caps avs fn m1 m2 m3 m4 m5,o.op=.call ⟨.value fop,cargs,tys⟩∧RM.run s (Yj (O:=std E N) ops.toList o) m=.ok ([],m1)∧RM.run s (ev (O:=std E N) P [] 0 fop) m2=.ok (.val ⟨false,[.fn f caps]⟩,m3) ∧
      P.funcs[f]? = some fn ∧ fn.body.isSome = true ∧ (fn.name == "runtime.NumGoroutine") = false ∧ RM.run s (WE (O := std E N) P [] (fn.params.toList.take cargs.size) cargs.toList) m4 = .ok (avs, m5) ∧ args = avs ++ caps.map fun (b, o) => one (.ptr b o) := by
  unfold K5 at h
  obtain ⟨ctx,m1,h1,h2⟩:=RM.bind_ok h
  obtain ⟨g',m2,h3,h4⟩:=RM.bind_ok h2
  split at h4
  · split at h4
    · exact (RM.fail_ok h4).elim
    · obtain ⟨p,m3,h5,h6⟩:=RM.bind_ok h4
      obtain ⟨v,m4,h7,h8⟩:=RM.bind_ok h6
      obtain ⟨wr',m5,h9,h10⟩:=RM.bind_ok h8
      split at h10
      · cases RM.ret_ok h10
      · exact (RM.fail_ok h10).elim
  · rename_i fop cargs tys hop
    obtain ⟨fv,m3,h5,h6⟩:=RM.bind_ok h4
    split at h6
    case h_2=>exact (RM.fail_ok h6).elim
    rename_i f' caps
    split at h6
    case h_1=>exact (RM.fail_ok h6).elim
    rename_i fn0 hfn0
    obtain ⟨_,m40,h60,h61⟩:=RM.bind_ok h6
    obtain ⟨avs,m4,h7,h8⟩:=RM.bind_ok h61
    have hg:=RM.guard_ok h60
    simp only [Bool.and_eq_true,Bool.not_eq_true'] at hg
    rcases P2 h8 with ⟨hgn,h9⟩ | ⟨hcaps,fns',ci,fn,ls',fr,u,dm',m2,m3,q1,q2,q3,q4,q5,q6,q7,q8,h9⟩
    · subst hgn
      have hc:=MB h3
      subst hc
      cases h9
      exact ⟨fop,cargs,tys,caps,avs,fn0,_,_,_,_,_,hop,h1,h5,hfn0,hg.1,hg.2,h7,rfl⟩
    · cases h9
  · split at h4
    · obtain ⟨⟨as',c',wr'⟩,m3,h5,h6⟩:=RM.bind_ok h4
      cases RM.ret_ok h6
    · obtain ⟨c',m3,h5,h6⟩:=RM.bind_ok h4
      cases RM.ret_ok h6
    · exact (RM.fail_ok h4).elim
  · split at h4
    · obtain ⟨⟨as',v,fr⟩,m3,h5,h6⟩:=RM.bind_ok h4
      obtain ⟨fr',m4,h7,h8⟩:=RM.bind_ok h6
      cases RM.ret_ok h8
    · exact (RM.fail_ok h4).elim
theorem g9 (hs : Sim P n0 nt β σ s a w) {done : List Nat} (gi : GI s done) {d : Nat} (hd : d ∉ done) (hdn : d < nt) {new : Nat → Prop} (hnew : ∀ n, new n → Fresh a s n) {s2 : St0 E N} (htm : s2.tm = s.tm)
    (x:Ext P new β σ s w β' σ' s2 w') (m:Mem P n0 β' σ' s2 w') {av:AV (std E N)} {z:Value} (hr:RelAV P n0 β' σ' s2 w' av z) :
    Sim P n0 nt β' σ' { s2 with tm:=FY s2.tm d (some ⟨[],av⟩) } (a.put (some d) z) w':=by
  have gT:∀ n,({ s2 with tm:=FY s2.tm d (some ⟨[],av⟩) }:St0 E N).getT n=if n=d∧d<Cq then some ⟨[],av⟩ else s.getT n:=fun n=>by
    unfold State.getT
    rw [← htm]
    exact C1 _ _ _ _
  have sub:Sub s2 ({ s2 with tm:=FY s2.tm d (some ⟨[],av⟩) }:St0 E N):=Sub.of_same (fun _=>rfl) (fun _=>rfl)
  have x2:=sub.ext P (fun _=>False) β' σ' w'
  have ne:∀ {g:Nat×Bool},g.1∈done→g.1≠d:=fun hg e=>hd (e▸hg)
  refine ⟨Nat.le_trans hs.n0le x.size,by simp [Act.put,hs.size],fun n tv hn=>?_,sub.mem m⟩
  rw [gT] at hn
  split at hn
  · rename_i he
    cases hn
    rw [he.1,JL (by rw [hs.size];exact hdn)]
    exact .inl ⟨fun n b hm=>by simp at hm,x2.relAV (fun _ _ h=>h) hr⟩
  · rename_i he
    have hnd:n≠d:=fun e=>by
      by_cases hb:d<Cq
      · exact he ⟨e,hb⟩
      · rw [e,Z1 hb] at hn;cases hn
    rw [Dw hnd]
    have hg:∀ g∈tv.gs,g.1≠d:=fun g hg=>ne (gi n tv hn g hg)
    rcases hs.T n tv hn with ⟨h1,h2⟩ | ⟨h1,h2⟩
    · exact .inl ⟨(E0 hg).2 h1,x2.relAV (fun _ _ h=>h) (x.relAV (fun k hk hnw=>(hnew k hnw).t n tv hn h1 hk) h2)⟩
    · exact .inr ⟨fun h=>h1 ((E0 hg).1 h),h2⟩
theorem RD (inl : Inl E N) (hInl : Ya P inl) (hΓ : ∀ ci ∈ cfg.gam, BU P E N ci ∧ BU P E N { ci with own := false }) {ops : Array Oper} (hnd : (AX ops.toList).Nodup)
    (hg:∀ (k:Nat) (o:Oper),ops.toList[k]?=some o→∀ j want,o.guard=some (j,want)→j<k) (hdn:∀ d∈AX ops.toList,d<nt) {Q:Exit→Act→World→Prop} {r:List PV} :
    ∀ (rest pre:List Oper) (id:Nat) (s:St0 E N) (ms:List (Nat×Nat)) (k:St0 E N→List (Nat×Nat)→Option (List PV)) (β:Nat→Option Nat) (σ:Nat→Option (Nat×Nat)) (a:Act) (w:World),ops.toList=pre++rest →
      F3 (O:=std E N) P cfg inl ops.toList false rest id s ms k=some r→Sim P n0 nt β σ s a w→GI s (AX pre)→(∀ n,id≤n→Fresh a s n) →
      (∀ (s':St0 E N) (ms':List (Nat×Nat)) (id':Nat) (β':Nat→Option Nat) (σ':Nat→Option (Nat×Nat)) (a':Act) (w':World),k { s' with st:=id' } ms'=some r→Post P n0 nt id (fun n=>n∈AX rest) β σ s a w β' σ' s' a' w'→id≤id'→(∀ n,id'≤n→Fresh a' s' n)→GI s' (AX ops.toList)→Q .normal a' w') →
      wpOps P ops Q (List.range' pre.length rest.length) a w
  | [],pre,id,s,ms,k,β,σ,a,w,hops,h,hs,gi,hf,hQ=>by
    have:F3 (O:=std E N) P cfg inl ops.toList false [] id s ms k=k { s with st:=id } ms:=rfl
    rw [this] at h
    refine hQ s ms id β σ a w h ⟨hs,Ext.refl _ _ _ _ _ _,fun n e h _=>h,fun n e h _=>h,rfl,fun _ _=>rfl⟩ (Nat.le_refl _) hf ?_
    rw [hops];simpa using gi
  | o::rest,pre,id,s,ms,k,β,σ,a,w,hops,h,hs,gi,hf,hQ=>by
    have hgetL:ops.toList[pre.length]?=some o:=by rw [hops,List.getElem?_append_right (Nat.le_refl _)];simp
    have hget:ops[pre.length]?=some o:=by rw [← Array.getElem?_toList];exact hgetL
    have hdl:AX ops.toList=AX pre++(o.dst.toList++AX rest):=by
      rw [hops,Ln]
      congr 1
      simp only [AX]
      cases o.dst<;>rfl
    rw [hdl] at hnd
    have hnd2:=(List.nodup_append.1 hnd)
    have hdone:∀ j want d,o.guard=some (j,want)→(ops[j]?).bind (·.dst)=some d→d∈AX pre:=fun j want d h1 h2=>by
      have hj:=hg pre.length o hgetL j want h1
      obtain ⟨x,hx,hxd⟩:=Option.bind_eq_some_iff.1 h2
      rw [← Array.getElem?_toList,hops,List.getElem?_append_left hj] at hx
      exact G8 hx hxd
    have hdst:∀ d,o.dst=some d→d∉AX pre∧d<nt:=fun d hd=>by
      refine ⟨fun hm=>hnd2.2.2 d hm d (by simp [hd]) rfl,hdn d (by rw [hdl];simp [hd])⟩
    have hpre2:ops.toList=(pre++[o])++rest:=by rw [hops];simp
    have hlen:(pre++[o]).length=pre.length+1:=by simp
    have hgi2:∀ {s':St0 E N},GI s' (o.dst.toList++AX pre)→GI s' (AX (pre++[o])):=fun {s'} g=>g.mono (fun x hx=>by
      rw [Ln]
      rcases List.mem_append.1 hx with h | h
      · refine List.mem_append_right _ ?_
        simp only [AX]
        cases hd:o.dst with
        | none=>rw [hd] at h;simp at h
        | some d=>rw [hd] at h;simpa using h
      · exact List.mem_append_left _ h)
    have next : ∀ (wr : Wr (std E N)) (ms2 : List (Nat × Nat)), F3 (O := std E N) P cfg inl ops.toList false rest (id + BQ P o) (s.apply wr) ms2 k = some r → ∀ a' w', After P n0 nt (fun n => id ≤ n ∧ n < id + BQ P o) β σ s a w o.dst wr a' w' → GI (s.apply wr) (o.dst.toList ++ AX pre) →
        wpOps P ops Q (List.range' (pre.length+1) rest.length) a' w':=fun wr ms2 h a' w' ha hg2=>by
      obtain ⟨β',σ',p1,p2⟩:=ha.post
      rw [← hlen]
      refine RD inl hInl hΓ (by rw [hdl];exact hnd) hg hdn rest (pre++[o]) (id+BQ P o) (s.apply wr) ms2 k β' σ' a' w' hpre2 h p1.sim (hgi2 hg2) (fun n hn=>p2 n hf hn) (fun s' ms' id' β'' σ'' a'' w'' hk hp hle hf' hg'=>?_)
      have hpt:=p1.trans hp (Nat.le_add_right _ _)
      refine hQ s' ms' id' β'' σ'' a'' w'' hk ⟨hpt.sim,hpt.ext,hpt.cleanB,hpt.cleanH,hpt.defers,fun n hn=>hpt.tmps n (fun h=>hn ?_)⟩ (by omega) hf' hg'
      simp only [AX]
      rcases h with h | h
      · rw [h];simp
      · cases o.dst with
        | none=>exact h
        | some d=>exact List.mem_cons_of_mem _ h
    rw [List.length_cons,List.range'_succ,wpOps_cons]
    unfold F3 at h
    split at h
    · cases h
    · rename_i as wr rd hrun
      obtain ⟨has,h2⟩:=O1 h
      exact Sw hs gi hdone hdst (fun n h1 _=>hf n h1) hget hrun has (fun a' w' ha hg2=>next wr _ h2 a' w' ha hg2)
    · rename_i g f fns args dm nx rd hrun
      obtain ⟨c,hc,h2⟩:=Option.bind_eq_some_iff.1 h
      split at h2
      · cases h2
      · rename_i wr hn
        exact Ua hΓ hs gi hdone hdst (fun n h1 _=>hf n h1) hget hrun (c:=c) (by
          cases g with
          | none=>exact hc
          | some b=>cases b<;>exact hc) hn (fun a' w' ha hg2=>next wr _ h2 a' w' ha hg2)
    · rename_i f args rd hrun
      obtain ⟨fop,cargs,tys,caps,avs,fn,m1,m2,m3,m4,m5,hop,hctx,hev,hfn,hbody,hname,hall,rfl⟩:=cQ hrun
      have hf0:Facts a []:=fun n b hm=>by simp at hm
      have hw:=(ZM hs gi hctx hdone).1.2 hf0
      obtain ⟨hv1,hvn⟩:=PS hs hf0 hev
      have hargs:=U9 hs hf0 hall
      have hnm:=Uv hs hf0 hall
      obtain ⟨vs,e1,e2,e3⟩:∃ vs:List Value,a.eval fop=.func (.func f) #[] vs.toArray∧vs.length=caps.length∧∀ (i b o:Nat),caps[i]?=some (b,o)→∃ x:Value,vs[i]?=some x∧I4 β s b o x:=by
        obtain ⟨hr1,hr2⟩:=hv1
        have hr2:(a.eval fop).oneCell'=true:=hr2
        rw [BM hr2] at hr1
        exact hr1.1
      have hnb:fn.body.isNone=false:=by cases hb:fn.body<;>simp_all
      have hex:(execOp a.eval o).run P w=.ok (.enter f (cargs.map a.eval++vs.toArray)) w:=by
        simp only [beq_eq_false_iff_ne,ne_eq] at hname
        simp [execOp,hop,resolve,Deferred.ofValue,e1,invoke,callFunc,hfn,hname,hnb]
        intro hbn;rw [hbn] at hbody;cases hbody
      have subst0:Sub s ({ s with st:=id+BQ P o }:St0 E N):=Sub.of_same (fun _=>rfl) (fun _=>rfl)
      have hcall:=hInl f _ _ _ r h n0 β σ w (cargs.toList.map a.eval++vs) hs.n0le (subst0.mem hs.M) (fun n hn=>⟨fun q e he=>(hf n (by have:id+BQ P o≤n:=hn;omega)).b q e he,fun q e he=>(hf n (by have:id+BQ P o≤n:=hn;omega)).h q e he⟩)
        (fun x hx n hn=>by
          rcases Nat.lt_or_ge n (id+BQ P o) with h | h
          · exact h
          · have hfn:=hf n (by omega)
            rcases List.mem_append.1 hx with hx | hx
            · exact (hnm x hx n hfn hn).elim
            · obtain ⟨p,hp,rfl⟩:=List.mem_map.1 hx
              refine (hvn n hfn ?_).elim
              have:n=p.1:=by simpa [AV.names,one,AE,AC.names] using hn
              simp only [AV.names,AE,AC.names,List.append_nil]
              exact List.mem_map.2 ⟨p,hp,this.symm⟩)
        (by
          exact (subst0.ext P (fun _=>False) β σ w).relArgs (RelArgs.append hargs (Z9 (n0:=n0) (P:=P) (σ:=σ) (w:=w) e2 e3)))
      unfold wpOp
      simp only [hget,hw,if_true]
      refine .inl ?_
      unfold Oper.wp
      rw [hex]
      have harr:(cargs.toList.map a.eval++vs).toArray=cargs.map a.eval++vs.toArray:=by apply Array.ext';simp
      rw [harr] at hcall
      refine Calls.mono hcall (fun e w' hp=>?_)
      cases e with
      | panicked ch=>exact hp.elim
      | outgrown=>exact hp.elim
      | returned v =>
        obtain ⟨av,s2,β',σ',hk,htm,hst,hm,hx,hcb,hch,hrel,hfr⟩:=hp
        have hst':id+BQ P o≤s2.st:=hst
        have x0:Ext P (fun n=>id≤n) β σ s w β' σ' s2 w':=((subst0.ext P (fun _=>False) β σ w).trans hx).weaken (fun n h=>h.elim (fun h=>h.elim) (fun h=>by have:id+BQ P o≤n:=h;omega))
        have hnew:∀ n,id≤n→Fresh a s n:=hf
        have gT2:∀ n,s2.getT n=s.getT n:=fun n=>by unfold State.getT;rw [show s2.tm=s.tm from htm]
        rw [← hlen]
        have tail : ∀ (s3 : St0 E N) (a3 : Act), F3 (O := std E N) P cfg inl ops.toList false rest s2.st s3 (ms ++ [(0, 0)]) k = some r → Post P n0 nt id (fun n => o.dst = some n) β σ s a w β' σ' s3 a3 w' → GI s3 (o.dst.toList ++ AX pre) → (∀ n, s2.st ≤ n → Fresh a3 s3 n) →
            wpOps P ops Q (List.range' (pre++[o]).length rest.length) a3 w':=fun s3 a3 hk3 hp3 hg3 hf3=>by
          refine RD inl hInl hΓ (by rw [hdl];exact hnd) hg hdn rest (pre++[o]) s2.st s3 (ms++[(0,0)]) k β' σ' a3 w' hpre2 hk3 hp3.sim (hgi2 hg3) hf3 (fun s' ms' id' β'' σ'' a'' w'' hkk hpp hle hf' hg'=>?_)
          have hpt:=hp3.trans hpp (by omega)
          refine hQ s' ms' id' β'' σ'' a'' w'' hkk ⟨hpt.sim,hpt.ext,hpt.cleanB,hpt.cleanH,hpt.defers,fun n hn=>hpt.tmps n (fun h=>hn ?_)⟩ (by omega) hf' hg'
          simp only [AX]
          rcases h with h | h
          · rw [h];simp
          · cases o.dst with
            | none=>exact h
            | some d=>exact List.mem_cons_of_mem _ h
        cases hd:o.dst with
        | none =>
          rw [hd] at hk tail
          refine tail s2 a hk ⟨⟨Nat.le_trans hs.n0le x0.size,hs.size,fun n tv hn=>?_,hm⟩,x0,hcb,hch,rfl,fun _ _=>rfl⟩ (fun n tv hn=>gi n tv (by rw [← gT2];exact hn)) (fun n hn=>⟨fun q tv hq hg=>?_,(hfr n hn).1.1,(hfr n hn).1.2⟩)
          · rw [gT2] at hn
            rcases hs.T n tv hn with ⟨h1,h2⟩ | ⟨h1,h2⟩
            · exact .inl ⟨h1,x0.relAV (fun q hq hnw=>(hnew q hnw).t n tv hn h1 hq) h2⟩
            · exact .inr ⟨h1,h2⟩
          · rw [gT2] at hq;exact (hf n (by omega)).t q tv hq hg
        | some d =>
          rw [hd] at hk tail
          have hdd:=hdst d hd
          have gT3:∀ n,({ s2 with tm:=FY s2.tm d (some ⟨[],av⟩) }:St0 E N).getT n=if n=d∧d<Cq then some ⟨[],av⟩ else s.getT n:=fun n=>by
            unfold State.getT
            rw [← show s2.tm=s.tm from htm]
            exact C1 _ _ _ _
          refine tail { s2 with tm:=FY s2.tm d (some ⟨[],av⟩) } (a.put (some d) v) hk ⟨g9 hs gi hdd.1 hdd.2 hnew htm x0 hm hrel,?_,hcb,hch,rfl,fun n hn=>Dw (fun e=>hn (by rw [e]))⟩ (fun n tv hn g hg=>?_) (fun n hn=>⟨fun q tv hq hg=>?_,(hfr n hn).1.1,(hfr n hn).1.2⟩)
          · exact (x0.trans ((Sub.of_same (s:=s2) (s':={ s2 with tm:=FY s2.tm d (some ⟨[],av⟩) }) (fun _=>rfl) (fun _=>rfl)).ext P (fun _=>False) β' σ' w')).weaken (fun n h=>h.elim (fun h=>h) (fun h=>h.elim))
          · rw [gT3] at hn
            split at hn
            · cases hn;simp at hg
            · exact List.mem_append_right _ (gi n tv hn g hg)
          · rw [gT3] at hq
            split at hq
            · cases hq;exact (hfr n hn).2
            · rename_i hne
              exact (hf n (by omega)).t q tv hq ((E0 (d:=d) (v:=v) (fun g hg2 e=>hdd.1 (by have:=gi q tv hq g hg2;rw [e] at this;exact this))).1 hg)
end
end Go.Px
end
section
namespace Go.Px
section
variable {E:Env} {N:Nat} {P:Program} {cfg:Cfg} {n0 n0':Nz} {nt:Nat} {β β':Nat→Option Nat} {σ σ':Nat→Option (Nat×Nat)} {s s':St0 E N} {a:Act} {w w':World}
theorem Sl {O : Alg} : ∀ (d : Nat) (t : TM (TV O)) (n : Nat), TM.get d (Ff t) n = match TM.get d t n with
    | some tv=>match tv.gs with
      | []=>some tv
      | _=>none
    | none=>none
  | 0,.e,n=>rfl
  | 0,.leaf tv,n=>by
    cases h:tv.gs<;>simp [Ff,h,TM.get]
  | 0,.node l r,n=>rfl
  | d+1,.e,n=>rfl
  | d+1,.leaf tv,n=>by
    cases h:tv.gs<;>simp [Ff,h,TM.get]
  | d+1,.node l r,n=>by
    simp only [Ff,TM.get]
    cases h:Nat.beq (n % 2) 0 with
    | true=>exact Sl d l (n / 2)
    | false=>exact Sl d r (n / 2)
structure WF (s:St0 E N):Prop where
 fresh:∀ n,s.st≤n→I9 s n∧∀ k tv,s.getT k=some tv→n∉tv.v.names
 gs:∀ n tv,s.getT n=some tv→tv.gs=[]
theorem WF.gi (h:WF s):GI s []:=fun n tv hn g hg=>by rw [h.gs n tv hn] at hg;simp at hg
theorem WF.free (h:WF s) (a:Act):∀ n,s.st≤n→Fresh a s n:=fun n hn=>⟨fun k tv hk _=>(h.fresh n hn).2 k tv hk,(h.fresh n hn).1.1,(h.fresh n hn).1.2⟩
theorem aS (s : St0 E N) (q n : Nat) : ({ s with tm := Ff s.tm, st := q } : St0 E N).getT n = match s.getT n with
    | some tv=>match tv.gs with
      | []=>some tv
      | _=>none
    | none=>none:=by
  unfold State.getT CM
  cases Nat.blt n Cq with
  | true =>
    show TM.get L9 (Ff s.tm) n=_
    rw [Sl]
    cases TM.get L9 s.tm n<;>rfl
  | false=>rfl
theorem Ip {q n:Nat} {tv:TV (std E N)} (h:({ s with tm:=Ff s.tm,st:=q }:St0 E N).getT n=some tv):s.getT n=some tv∧tv.gs=[]:=by
 rw [aS] at h
 cases hs:s.getT n with
 | none=>rw [hs] at h;cases h
 | some u =>
  rw [hs] at h
  simp only at h
  split at h
  ·rename_i hg;cases h;exact ⟨rfl,hg⟩
  ·cases h
theorem Sim.purged (hs:Sim P n0 nt β σ s a w) (q:Nat):Sim P n0 nt β σ { s with tm:=Ff s.tm,st:=q } a w:=by
 have sub:Sub s ({ s with tm:=Ff s.tm,st:=q }:St0 E N):=Sub.of_same (fun _=>rfl) (fun _=>rfl)
 refine ⟨hs.n0le,hs.size,fun n tv hn=>?_,sub.mem hs.M⟩
 obtain ⟨h1,h2⟩:=Ip hn
 rcases hs.T n tv h1 with ⟨h3,h4⟩ | ⟨h3,h4⟩
 ·exact .inl ⟨h3,(sub.ext P (fun _=>False) β σ w).relAV (fun _ _ h=>h) h4⟩
 ·exact .inr ⟨h3,h4⟩
theorem RE:∀ {l:List Nat},Wh l=true→l.Nodup
 | [],_=>List.nodup_nil
 | n::l,h=>by
  simp only [Wh,Bool.and_eq_true,Bool.not_eq_true'] at h
  exact List.nodup_cons.2 ⟨fun hm=>(by have:=B5.2 hm;rw [this] at h;cases h.1),RE h.2⟩
theorem Ph:∀ {l:List Oper},I3 nt l=true→∀ d∈AX l,d<nt
 | [],_,d,hd=>by simp [AX] at hd
 | o::l,h,d,hd=>by
  simp only [I3,Bool.and_eq_true] at h
  simp only [AX] at hd
  cases ho:o.dst with
  | none=>rw [ho] at hd;exact Ph h.2 d hd
  | some x =>
   rw [ho] at hd h
   rcases List.mem_cons.1 hd with rfl | hd
   ·exact BJ.1 h.1
   ·exact Ph h.2 d hd
theorem cU (inl : Inl E N) (hInl : Ya P inl) (hΓ : ∀ ci ∈ cfg.gam, BU P E N ci ∧ BU P E N { ci with own := false }) {ops : Array Oper} {rid : Nat} (hdn : I3 nt ops.toList = true) {Q : Exit → Act → World → Prop} {r : List PV}
    {k:St0 E N→Option (List PV)} (h:Hz (O:=std E N) P cfg inl ops.toList false s k=some r) (hs:Sim P n0 nt β σ s a w) (wf:WF s)
    (hQ:∀ (s':St0 E N) (β':Nat→Option Nat) (σ':Nat→Option (Nat×Nat)) (a':Act) (w':World),k s'=some r→Post P n0 nt s.st (fun n=>n∈AX ops.toList) β σ s a w β' σ' s' a' w'→WF s'→s.st≤s'.st→Q .normal a' w') :
    (Code.region rid ops false).wp P Q a w:=by
  unfold Hz at h
  split at h
  · cases h
  · rename_i hok
    simp only [Bool.and_eq_true] at hok
    have hg:=YB hok.2.1
    refine wp_region ?_
    have hr:List.range ops.size=List.range' ([]:List Oper).length ops.toList.length:=by simp [List.range_eq_range']
    rw [hr]
    refine RD inl hInl hΓ (RE hok.1) (fun k o ho j want hgd=>by have:=hg k o ho j want hgd;omega) (Ph hdn) ops.toList [] s.st s [] _ β σ a w rfl h hs wf.gi (wf.free a) (fun s' ms' id' β' σ' a' w' hk hp hle hf hgi=>?_)
    have wf':WF ({ s' with tm:=Ff s'.tm,st:=id' }:St0 E N):=⟨fun n hn=>⟨⟨(hf n hn).b,(hf n hn).h⟩,fun k tv hk=>by
      obtain ⟨h1,h2⟩:=Ip hk
      exact (hf n hn).t k tv h1 (fun m b hm=>by rw [h2] at hm;simp at hm)⟩,fun n tv hn=>(Ip hn).2⟩
    have sub:Sub s' ({ s' with tm:=Ff s'.tm,st:=id' }:St0 E N):=Sub.of_same (fun _=>rfl) (fun _=>rfl)
    exact hQ _ β' σ' a' w' hk ⟨hp.sim.purged id',(hp.ext.trans (sub.ext P (fun _=>False) β' σ' w')).weaken (fun n h=>h.elim (fun h=>h) (fun h=>h.elim)),hp.cleanB,hp.cleanH,hp.defers,hp.tmps⟩ wf' hle
end
end Go.Px
end
section
namespace Go.Px
section
variable {E:Env} {N:Nat} {P:Program} {cfg:Cfg} {n0 n0':Nz} {nt:Nat} {β β':Nat→Option Nat} {σ σ':Nat→Option (Nat×Nat)} {s s' s2:St0 E N} {a:Act} {w w':World}
def Bt (s:St0 E N) (p:Nat):Option (TV (std E N))×Option (BEnt (std E N))×Option (HEnt (std E N)) :=
  (if p % 3=0 then s.getT (p / 3) else none,if p % 3=1 then s.getB (p / 3) else none,if p % 3=2 then s.getH (p / 3) else none)
def Same (s s':St0 E N):Prop:=∀ p,Bt s p=Bt s' p
theorem dH {n:Nat} (h:Bt s (3 * n)=Bt s' (3 * n)):s.getT n=s'.getT n:=by
 have h0:(3 * n) % 3=0:=by omega
 have h1:(3 * n) / 3=n:=by omega
 have:=congrArg (fun x=>x.1) h
 simpa [Bt,h0,h1] using this
theorem dT {n:Nat} (h:Bt s (3 * n+1)=Bt s' (3 * n+1)):s.getB n=s'.getB n:=by
 have h0:(3 * n+1) % 3=1:=by omega
 have h1:(3 * n+1) / 3=n:=by omega
 have:=congrArg (fun x=>x.2.1) h
 simpa [Bt,h0,h1] using this
theorem dn {n:Nat} (h:Bt s (3 * n+2)=Bt s' (3 * n+2)):s.getH n=s'.getH n:=by
 have h0:(3 * n+2) % 3=2:=by omega
 have h1:(3 * n+2) / 3=n:=by omega
 have:=congrArg (fun x=>x.2.2) h
 simpa [Bt,h0,h1] using this
theorem Same.T (h:Same s s') (n:Nat):s.getT n=s'.getT n:=dH (h _)
theorem Same.B (h:Same s s') (n:Nat):s.getB n=s'.getB n:=dT (h _)
theorem Same.H (h:Same s s') (n:Nat):s.getH n=s'.getH n:=dn (h _)
theorem Same.refl (s:St0 E N):Same s s:=fun _=>rfl
theorem Same.symm (h:Same s s'):Same s' s:=fun p=>(h p).symm
theorem Same.trans (h:Same s s') (k:Same s' s2):Same s s2:=fun p=>(h p).trans (k p)
theorem Same.sub (h:Same s s'):Sub s s':=Sub.of_same (fun n=>(h.B n).symm) (fun n=>(h.H n).symm)
theorem Same.of (hT:∀ n,s.getT n=s'.getT n) (hB:∀ n,s.getB n=s'.getB n) (hH:∀ n,s.getH n=s'.getH n):Same s s':=fun p=>by
 simp only [Bt,hT,hB,hH]
theorem Sim.same (hs:Sim P n0 nt β σ s a w) (h:Same s s'):Sim P n0 nt β σ s' a w :=
 ⟨hs.n0le,hs.size,fun n tv hn=>by
  rw [← h.T] at hn
  rcases hs.T n tv hn with ⟨h1,h2⟩ | h1
  ·exact .inl ⟨h1,(h.sub.ext P (fun _=>False) β σ w).relAV (fun _ _ h=>h) h2⟩
  ·exact .inr h1,h.sub.mem hs.M⟩
theorem Fresh.same {n:Nat} (hf:Fresh a s n) (h:Same s s'):Fresh a s' n :=
 ⟨fun k tv hk=>hf.t k tv (by rw [h.T];exact hk),fun k e hk=>hf.b k e (by rw [h.B];exact hk),fun k e hk=>hf.h k e (by rw [h.H];exact hk)⟩
theorem GI.same {done:List Nat} (gi:GI s done) (h:Same s s'):GI s' done:=fun n tv hn=>gi n tv (by rw [h.T];exact hn)
theorem Post.same {L:Nat} {D:Nat→Prop} {a':Act} (p:Post P n0 nt L D β σ s a w β' σ' s' a' w') (h:Same s' s2):Post P n0 nt L D β σ s a w β' σ' s2 a' w' :=
 ⟨p.sim.same h,(p.ext.trans (h.sub.ext P (fun _=>False) β' σ' w')).weaken (fun n hn=>hn.elim (fun h=>h) (fun h=>h.elim)),fun n e he=>p.cleanB n e (by rw [h.B];exact he),fun n e he=>p.cleanH n e (by rw [h.H];exact he),p.defers,p.tmps⟩
theorem Ej {k p:Nat}:(EW k).testBit p=true↔k=p:=by
 unfold EW
 rw [Nat.testBit_two_pow]
 simp
theorem Q5 (f:Nat→Nat) {α:Type}:∀ (l:List (Nat×α)) (p:Nat),(Od f l).testBit p=true↔∃ n,n∈l.map (·.1)∧f n=p
 | [],p=>by simp [Od]
 | (n,v)::l,p=>by
  simp only [Od,Nat.testBit_or,Bool.or_eq_true,Ej,Q5 f l p,List.map_cons,List.mem_cons]
  constructor
  ·rintro (h | ⟨m,h1,h2⟩)
   ·exact ⟨n,.inl rfl,h⟩
   ·exact ⟨m,.inr h1,h2⟩
  ·rintro ⟨m,rfl | h1,h2⟩
   ·exact .inl h2
   ·exact .inr ⟨m,h1,h2⟩
theorem S9 {wr:Wr (std E N)} {p:Nat}:wr.mask.testBit p=true↔(∃ n,n∈wr.ts.map (·.1)∧3 * n=p)∨(∃ n,n∈wr.bs.map (·.1)∧3 * n+1=p)∨(∃ n,n∈wr.hs.map (·.1)∧3 * n+2=p):=by
 simp only [Wr.mask,Nat.testBit_or,Bool.or_eq_true,Q5,or_assoc]
theorem Ne:∀ {ts:List (Nat×Option (TV (std E N)))} {t:TM (TV (std E N))} {n:Nat},n∉ts.map (·.1)→CM (State.applyT t ts) n=CM t n
 | [],t,n,_=>rfl
 | (k,v)::r,t,n,h=>by
  simp only [List.map_cons,List.mem_cons,not_or] at h
  simp only [State.applyT]
  rw [Ne h.2,C1,if_neg (fun e=>h.1 e.1)]
theorem Xy:∀ {ts:List (Nat×Option (TV (std E N)))} {t t':TM (TV (std E N))} {n:Nat},n∈ts.map (·.1)→CM (State.applyT t ts) n=CM (State.applyT t' ts) n
 | [],t,t',n,h=>by simp at h
 | (k,v)::r,t,t',n,h=>by
  simp only [State.applyT]
  by_cases hr:n∈r.map (·.1)
  ·exact Xy hr
  ·rw [Ne hr,Ne hr,C1,C1]
   have hk:n=k:=by
    simp only [List.map_cons,List.mem_cons] at h
    exact h.resolve_right hr
   by_cases hb:k<Cq
   ·rw [if_pos ⟨hk,hb⟩,if_pos ⟨hk,hb⟩]
   ·rw [if_neg (fun e=>hb e.2),if_neg (fun e=>hb e.2)]
    have hn:Nat.blt n Cq=false:=by
     cases h:Nat.blt n Cq with
     | false=>rfl
     | true=>exact (hb (hk▸BJ.1 h)).elim
    unfold CM;rw [hn]
theorem Sx {α:Type}:∀ {ts:List (Nat×Option α)} {t t':List (Nat×α)} {n:Nat},n∈ts.map (·.1)→AG (Ar t ts) n=AG (Ar t' ts) n
 | [],t,t',n,h=>by simp at h
 | (k,v)::r,t,t',n,h=>by
  simp only [Ar]
  by_cases hr:n∈r.map (·.1)
  ·exact Sx hr
  ·rw [C0 hr,C0 hr,A3,A3]
   have hk:n=k:=by
    simp only [List.map_cons,List.mem_cons] at h
    exact h.resolve_right hr
   rw [if_pos hk,if_pos hk]
theorem Lk {wr:Wr (std E N)} {p:Nat} (h:¬ wr.mask.testBit p=true):Bt (s.apply wr) p=Bt s p:=by
 rw [S9] at h
 have hT:p % 3=0→(s.apply wr).getT (p / 3)=s.getT (p / 3):=fun hp=>Ne (fun hm=>h (.inl ⟨p / 3,hm,by omega⟩))
 have hB:p % 3=1→(s.apply wr).getB (p / 3)=s.getB (p / 3):=fun hp=>C0 (fun hm=>h (.inr (.inl ⟨p / 3,hm,by omega⟩)))
 have hH:p % 3=2→(s.apply wr).getH (p / 3)=s.getH (p / 3):=fun hp=>C0 (fun hm=>h (.inr (.inr ⟨p / 3,hm,by omega⟩)))
 rcases (by omega:p % 3=0∨p % 3=1∨p % 3=2) with hp | hp | hp
 ·simp [Bt,hp,hT hp]
 ·simp [Bt,hp,hB hp]
 ·simp [Bt,hp,hH hp]
theorem Rt {wr:Wr (std E N)} {p:Nat} (h:wr.mask.testBit p=true) (s s':St0 E N):Bt (s.apply wr) p=Bt (s'.apply wr) p:=by
 rw [S9] at h
 rcases h with ⟨n,hn,rfl⟩ | ⟨n,hn,rfl⟩ | ⟨n,hn,rfl⟩
 ·have h0:(3 * n) % 3=0:=by omega
  have h1:(3 * n) / 3=n:=by omega
  have:(s.apply wr).getT n=(s'.apply wr).getT n:=Xy (t:=s.tm) (t':=s'.tm) hn
  simpa [Bt,h0,h1] using this
 ·have h0:(3 * n+1) % 3=1:=by omega
  have h1:(3 * n+1) / 3=n:=by omega
  have:(s.apply wr).getB n=(s'.apply wr).getB n:=Sx (t:=s.bx) (t':=s'.bx) hn
  simpa [Bt,h0,h1] using this
 ·have h0:(3 * n+2) % 3=2:=by omega
  have h1:(3 * n+2) / 3=n:=by omega
  have:(s.apply wr).getH n=(s'.apply wr).getH n:=Sx (t:=s.hp) (t':=s'.hp) hn
  simpa [Bt,h0,h1] using this
theorem VI {α:Type}:∀ {r:RM (std E N) α} {m m':Nat} {x:α},RM.run s r m=.ok (x,m')→∀ p,m.testBit p=true→m'.testBit p=true:=by
 intro r
 induction r with
 | ret v=>intro m m' x h p hp;simp only [RM.run] at h;cases h;exact hp
 | fail w=>intro m m' x h;simp only [RM.run] at h;cases h
 | t n f ih=>intro m m' x h p hp;exact ih _ h p (by rw [Nat.testBit_or,hp];rfl)
 | b n f ih=>intro m m' x h p hp;exact ih _ h p (by rw [Nat.testBit_or,hp];rfl)
 | h n f ih=>intro m m' x h p hp;exact ih _ h p (by rw [Nat.testBit_or,hp];rfl)
theorem Xn {α:Type}:∀ {r:RM (std E N) α} {m m':Nat} {x:α},RM.run s r m=.ok (x,m')→(∀ p,m'.testBit p=true→Bt s p=Bt s' p)→RM.run s' r m=.ok (x,m'):=by
 intro r
 induction r with
 | ret v=>intro m m' x h _;exact h
 | fail w=>intro m m' x h _;simp only [RM.run] at h;cases h
 | t n f ih =>
  intro m m' x h ha
  have hb:m'.testBit (3 * n)=true:=VI (r:=f (s.getT n)) h _ (by rw [Nat.testBit_or,Ej.2 rfl,Bool.or_true])
  simp only [RM.run] at h ⊢
  rw [← dH (ha _ hb)]
  exact ih _ h ha
 | b n f ih =>
  intro m m' x h ha
  have hb:m'.testBit (3 * n+1)=true:=VI (r:=f (s.getB n)) h _ (by rw [Nat.testBit_or,Ej.2 rfl,Bool.or_true])
  simp only [RM.run] at h ⊢
  rw [← dT (ha _ hb)]
  exact ih _ h ha
 | h n f ih =>
  intro m m' x h ha
  have hb:m'.testBit (3 * n+2)=true:=VI (r:=f (s.getH n)) h _ (by rw [Nat.testBit_or,Ej.2 rfl,Bool.or_true])
  simp only [RM.run] at h ⊢
  rw [← dn (ha _ hb)]
  exact ih _ h ha
structure Rc (E:Env) (N:Nat) where
 id:Nat
 rd:Nat
 wr:Wr (std E N)
def stD (D:Nat→Bool):Nat→List (Rc E N)→St0 E N→St0 E N
 | _,[],s=>s
 | i,t::tr,s=>stD D (i+1) tr (match D i with | true=>s.apply t.wr | false=>s)
theorem OI {D D' : Nat → Bool} {p : Nat} : ∀ {tr : List (Rc E N)} {i : Nat} {s s' : St0 E N}, Bt s p = Bt s' p → (∀ (k : Nat) (t : Rc E N), tr[k]? = some t → t.wr.mask.testBit p = true → D (i + k) = D' (i + k)) →
    Bt (stD D i tr s) p=Bt (stD D' i tr s') p
  | [],i,s,s',h,_=>h
  | t::tr,i,s,s',h,hd=>by
    simp only [stD]
    refine OI ?_ (fun k u hk hu=>by have:=hd (k+1) u (by simpa using hk) hu;rw [show i+1+k=i+(k+1) by omega];exact this)
    by_cases hb:t.wr.mask.testBit p=true
    · have:=hd 0 t rfl hb
      rw [Nat.add_zero] at this
      rw [← this]
      cases D i with
      | true=>exact Rt hb _ _
      | false=>exact h
    · have e1 : Bt (match D i with | true => s.apply t.wr | false => s) p = Bt s p := by
        cases D i with
        | true=>exact Lk hb
        | false=>rfl
      have e2:Bt (match D' i with | true=>s'.apply t.wr | false=>s') p=Bt s' p:=by
        cases D' i with
        | true=>exact Lk hb
        | false=>rfl
      rw [e1,e2];exact h
theorem R5 {D : Nat → Bool} {p : Nat} {t : Rc E N} (s0 : St0 E N) : ∀ {tr : List (Rc E N)} {i k : Nat} {s : St0 E N}, tr[k]? = some t → D (i + k) = true → t.wr.mask.testBit p = true →
    (∀ (j:Nat) (u:Rc E N),k<j→tr[j]?=some u→u.wr.mask.testBit p=true→D (i+j)=false)→Bt (stD D i tr s) p=Bt (s0.apply t.wr) p
  | [],i,k,s,hk,_,_,_=>by simp at hk
  | u::tr,i,0,s,hk,hd,hb,hl=>by
    simp at hk;subst hk
    rw [Nat.add_zero] at hd
    simp only [stD,hd]
    have:=OI (D:=D) (D':=fun _=>false) (p:=p) (tr:=tr) (i:=i+1) (s:=s.apply u.wr) (s':=s0.apply u.wr) (Rt hb _ _) (fun k v hk hv=>by
      have:=hl (k+1) v (by omega) (by simpa using hk) hv
      rw [show i+1+k=i+(k+1) by omega];exact this)
    rw [this]
    have none:∀ (tr:List (Rc E N)) (i:Nat) (s:St0 E N),stD (fun _=>false) i tr s=s:=fun tr=>by
      induction tr with
      | nil=>intro i s;rfl
      | cons v tr ih=>intro i s;exact ih _ _
    rw [none]
  | u::tr,i,k+1,s,hk,hd,hb,hl=>by
    simp only [stD]
    exact R5 s0 (tr:=tr) (i:=i+1) (k:=k) (by simpa using hk) (by rw [show i+1+k=i+(k+1) by omega];exact hd) hb (fun j v hj hv hp=>by
      have:=hl (j+1) v (by omega) (by simpa using hv) hp
      rw [show i+1+j=i+(j+1) by omega];exact this)
def OpGood (P:Program) (cfg:Cfg) (all:List Oper) (o:Oper) (s:St0 E N) (t:Rc E N):Prop :=
  (∃ as,RM.run s (K5 (O:=std E N) P cfg all o t.id) 0=.ok (.plain as t.wr,t.rd)∧∀ b∈as,b=true) ∨
  (∃ (g:Option Bool) (f:FuncId) (fns:List Nat) (ls dm:List AY) (next:List PV→Option (Wr (std E N))) (c:List PV),RM.run s (K5 (O:=std E N) P cfg all o t.id) 0=.ok (.call g f fns ls dm next,t.rd) ∧
    (match g with | none=>E f fns (ls.map Leaf.pv) | some b=>if b then E f fns (ls.map Leaf.pv) else some (dm.map Leaf.pv))=some c∧next c=some t.wr)
theorem OpGood.agree {all:List Oper} {o:Oper} {t:Rc E N} (h:OpGood P cfg all o s t) (ha:∀ p,t.rd.testBit p=true→Bt s p=Bt s' p):OpGood P cfg all o s' t:=by
 rcases h with ⟨as,h1,h2⟩ | ⟨g,f,fns,ls,dm,next,c,h1,h2,h3⟩
 ·exact .inl ⟨as,Xn h1 ha,h2⟩
 ·exact .inr ⟨g,f,fns,ls,dm,next,c,Xn h1 ha,h2,h3⟩
def TrOK (P:Program) (cfg:Cfg) (all:List Oper):List Oper→Nat→St0 E N→List (Rc E N)→Prop
 | [],_,_,[]=>True
 | o::r,id,s,t::tr=>t.id=id∧OpGood P cfg all o s t∧TrOK P cfg all r (id+BQ P o) (s.apply t.wr) tr
 | _,_,_,_=>False
theorem TrOK.len {all:List Oper}:∀ {r:List Oper} {id:Nat} {s:St0 E N} {tr:List (Rc E N)},TrOK P cfg all r id s tr→tr.length=r.length
 | [],_,_,[],_=>rfl
 | o::r,_,_,t::tr,h=>by simp [h.2.2.len]
 | [],_,_,_::_,h=>h.elim
 | _::_,_,_,[],h=>h.elim
theorem TrOK.good {all:List Oper}:∀ {r:List Oper} {id i:Nat} {s:St0 E N} {tr:List (Rc E N)},TrOK P cfg all r id s tr→∀ (k:Nat) (o:Oper) (t:Rc E N),r[k]?=some o→tr[k]?=some t→OpGood P cfg all o (stD (fun j=>decide (j<i+k)) i tr s) t
 | [],_,_,_,[],_,k,o,t,hk,_=>by simp at hk
 | o::r,id,i,s,t::tr,h,0,o',t',hk,ht=>by
  simp at hk ht;subst hk;subst ht
  have none:∀ (tr:List (Rc E N)) (j:Nat) (s:St0 E N),i≤j→stD (fun j=>decide (j<i+0)) j tr s=s:=fun tr=>by
   induction tr with
   | nil=>intro j s _;rfl
   | cons v tr ih =>
    intro j s hj
    simp only [stD]
    rw [show decide (j<i+0)=false by simp;omega]
    exact ih _ _ (by omega)
  rw [none _ _ _ (Nat.le_refl _)]
  exact h.2.1
 | o::r,id,i,s,t::tr,h,k+1,o',t',hk,ht=>by
  simp only [stD]
  rw [show decide (i<i+(k+1))=true by simp]
  have:=TrOK.good (i:=i+1) h.2.2 k o' t' (by simpa using hk) (by simpa using ht)
  rw [show i+1+k=i+(k+1) by omega] at this
  exact this
 | [],_,_,_,_::_,h,_,_,_,_,_=>h.elim
 | _::_,_,_,_,[],h,_,_,_,_,_=>h.elim
theorem TrOK.ids {all : List Oper} : ∀ {r : List Oper} {id : Nat} {s : St0 E N} {tr : List (Rc E N)}, TrOK P cfg all r id s tr → (∀ (k : Nat) (t : Rc E N), tr[k]? = some t → id ≤ t.id) ∧
    ∀ (i j:Nat) (o:Oper) (t u:Rc E N),i<j→r[i]?=some o→tr[i]?=some t→tr[j]?=some u→t.id+BQ P o≤u.id
  | [],_,_,[],_=>⟨fun k t h=>by simp at h,fun i j o t u _ h=>by simp at h⟩
  | o::r,id,s,t::tr,h=>by
    obtain ⟨h1,h2⟩:=h.2.2.ids
    refine ⟨fun k u hk=>?_,fun i j o' t' u hij ho ht hu=>?_⟩
    · cases k with
      | zero=>simp at hk;subst hk;exact Nat.le_of_eq h.1.symm
      | succ k=>have:=h1 k u (by simpa using hk);omega
    · cases j with
      | zero=>omega
      | succ j =>
        cases i with
        | zero =>
          simp at ho ht;subst ho;subst ht
          have:=h1 j u (by simpa using hu)
          rw [h.1];exact this
        | succ i=>exact h2 i j o' t' u (by omega) (by simpa using ho) (by simpa using ht) (by simpa using hu)
  | [],_,_,_::_,h=>h.elim
  | _::_,_,_,[],h=>h.elim
theorem Xx (inl : Inl E N) {all : List Oper} {r : List PV} : ∀ (rest : List Oper) (id : Nat) (s : St0 E N) (ms : List (Nat × Nat)) (k : St0 E N → List (Nat × Nat) → Option (List PV)), F3 (O := std E N) P cfg inl all true rest id s ms k = some r →
    ∃ (tr:List (Rc E N)) (id':Nat),TrOK P cfg all rest id s tr∧k { stD (fun _=>true) 0 tr s with st:=id' } (ms++tr.map fun t=>(t.rd,t.wr.mask))=some r∧id≤id'∧∀ (i:Nat) (o:Oper) (t:Rc E N),rest[i]?=some o→tr[i]?=some t→t.id+BQ P o≤id'
  | [],id,s,ms,k,h=>⟨[],id,trivial,by simpa [F3,stD] using h,Nat.le_refl _,fun i o t ho=>by simp at ho⟩
  | o::rest,id,s,ms,k,h=>by
    have shift:∀ (tr:List (Rc E N)) (i j:Nat) (s:St0 E N),stD (fun _=>true) i tr s=stD (fun _=>true) j tr s:=fun tr=>by
      induction tr with
      | nil=>intro i j s;rfl
      | cons t tr ih=>intro i j s;exact ih _ _ _
    have next:∀ (wr:Wr (std E N)) (rd:Nat),OpGood P cfg all o s ⟨id,rd,wr⟩→F3 (O:=std E N) P cfg inl all true rest (id+BQ P o) (s.apply wr) (ms++[(rd,wr.mask)]) k=some r→∃ (tr:List (Rc E N)) (id':Nat),TrOK P cfg all (o::rest) id s tr∧k { stD (fun _=>true) 0 tr s with st:=id' } (ms++tr.map fun t=>(t.rd,t.wr.mask))=some r∧id≤id'∧∀ (i:Nat) (o':Oper) (t:Rc E N),(o::rest)[i]?=some o'→tr[i]?=some t→t.id+BQ P o'≤id':=fun wr rd hg hr=>by
      obtain ⟨tr,id',h1,h2,h3,h4⟩:=Xx inl rest _ _ _ _ hr
      refine ⟨⟨id,rd,wr⟩::tr,id',⟨rfl,hg,h1⟩,?_,by omega,fun i o' t ho ht=>?_⟩
      · simp only [stD]
        rw [shift _ _ 0]
        simpa using h2
      · cases i with
        | zero=>simp at ho ht;subst ho;subst ht;exact h3
        | succ i=>exact h4 i o' t (by simpa using ho) (by simpa using ht)
    unfold F3 at h
    split at h
    · cases h
    · rename_i as wr rd hrun
      obtain ⟨has,h2⟩:=O1 h
      exact next wr rd (.inl ⟨as,hrun,has⟩) h2
    · rename_i g f fns args dm nx rd hrun
      obtain ⟨c,hc,h2⟩:=Option.bind_eq_some_iff.1 h
      split at h2
      · cases h2
      · rename_i wr hn
        refine next wr rd (.inr ⟨g,f,fns,args,dm,nx,c,hrun,?_,hn⟩) h2
        cases g with
        | none=>exact hc
        | some b=>cases b<;>exact hc
    · cases h
end
end Go.Px
end
section
namespace Go.Px
section
variable {E:Env} {N:Nat} {P:Program} {cfg:Cfg} {n0 n0':Nz} {nt:Nat} {β β':Nat→Option Nat} {σ σ':Nat→Option (Nat×Nat)} {s s' s2:St0 E N} {a:Act} {w w':World}
theorem Uf : ∀ (ops : List Oper) (acc : List Nat) (k : Nat) (o : Oper), ops[k]? = some o → ∀ j, ((Bg ops acc).getD (acc.length + k) 0).testBit j = true →
    ∃ e∈o.after.toList,Region.binds .any e=true∧(j=e.on∨(e.on<acc.length+k∧((Bg ops acc).getD e.on 0).testBit j=true))
  | [],acc,k,o,h=>by simp at h
  | x::ops,acc,k,o,h=>by
    have pre:∀ (ops:List Oper) (acc:List Nat) (i:Nat),i<acc.length→(Bg ops acc).getD i 0=acc.getD i 0:=fun ops=>by
      induction ops with
      | nil=>intro acc i _;rfl
      | cons y ops ih =>
        intro acc i hi
        simp only [Bg]
        rw [ih _ _ (by simp;omega)]
        simp only [List.getD_eq_getElem?_getD]
        rw [List.getElem?_append_left hi]
    cases k with
    | succ k =>
      intro j hj
      obtain ⟨m,hm⟩:∃ m,Bg (x::ops) acc=Bg ops (acc++[m]):=⟨_,rfl⟩
      rw [hm] at hj ⊢
      have hl:(acc++[m]).length+k=acc.length+(k+1):=by simp;omega
      have:=Uf ops (acc++[m]) k o (by simpa using h) j (by rw [hl];exact hj)
      rw [hl] at this
      exact this
    | zero =>
      simp at h;subst h
      intro j hj
      simp only [Bg] at hj ⊢
      rw [pre _ _ _ (by simp)] at hj
      simp only [List.getD_eq_getElem?_getD,Nat.add_zero] at hj
      rw [List.getElem?_append_right (Nat.le_refl _)] at hj
      simp only [Nat.sub_self,List.getElem?_cons_zero,Option.getD_some] at hj
      have key:∀ (es:List Edge) (m:Nat),(es.foldl (fun s (e:Edge)=>match e.ground with
    | .textOnly _ | .gcOnly _=>s
    | _ => s ||| EW e.on ||| acc.getD e.on 0) m).testBit j = true → m.testBit j = true ∨ ∃ e ∈ es, Region.binds .any e = true ∧ (j = e.on ∨ (acc.getD e.on 0).testBit j = true) := fun es => by
        induction es with
        | nil=>intro m h;exact .inl h
        | cons e es ih =>
          intro m h
          simp only [List.foldl_cons] at h
          rcases ih _ h with h1 | ⟨e',h1,h2⟩
          · have hb : (m.testBit j = true) ∨ (Region.binds .any e = true ∧ (j = e.on ∨ (acc.getD e.on 0).testBit j = true)) := by
              unfold Region.binds
              split at h1
              · exact .inl h1
              · exact .inl h1
              · rename_i hg1 hg2
                rw [Nat.testBit_or,Nat.testBit_or,Bool.or_eq_true,Bool.or_eq_true,Ej] at h1
                have hbnd : (match e.ground with
                    | .textOnly _=>Region.Mode.any==.text
                    | .gcOnly _=>Region.Mode.any==.gc
                    | _=>true)=true:=by
                  split
                  · rename_i hx;exact (hg1 _ hx).elim
                  · rename_i hx;exact (hg2 _ hx).elim
                  · rfl
                rcases h1 with (h1 | h1) | h1
                · exact .inl h1
                · exact .inr ⟨hbnd,.inl h1.symm⟩
                · exact .inr ⟨hbnd,.inr h1⟩
            rcases hb with h | h
            · exact .inl h
            · exact .inr ⟨e,List.mem_cons_self,h⟩
          · exact .inr ⟨e',List.mem_cons_of_mem _ h1,h2⟩
      rcases key _ 0 hj with h | ⟨e,h1,h2,h3⟩
      · simp at h
      · refine ⟨e,h1,h2,h3.imp (fun h=>h) (fun h=>?_)⟩
        by_cases he:e.on<acc.length
        · exact ⟨by omega,by rw [pre _ _ _ (by simp;omega)];simp only [List.getD_eq_getElem?_getD] at h ⊢;rw [List.getElem?_append_left he];exact h⟩
        · simp only [List.getD_eq_getElem?_getD] at h
          rw [List.getElem?_eq_none (by omega)] at h
          simp at h
theorem WU:∀ {ops:List Oper} {i:Nat},Tb i ops=true→∀ (k:Nat) (o:Oper),ops[k]?=some o→∀ e∈o.after.toList,Region.binds .any e=true→e.on<i+k
 | [],i,_,k,o,h,_,_,_=>by simp at h
 | x::ops,i,hb,k,o,h,e,he,hbd=>by
  simp only [Tb,Bool.and_eq_true] at hb
  cases k with
  | succ k =>
   have:=WU hb.2 k o (by simpa using h) e he hbd
   omega
  | zero =>
   simp at h;subst h
   have:=List.all_eq_true.1 hb.1 e he
   unfold Region.binds at hbd
   split at hbd
   ·simp at hbd
   ·simp at hbd
   ·rename_i h1 h2
    split at this
    ·rename_i hx;exact (h1 _ hx).elim
    ·rename_i hx;exact (h2 _ hx).elim
    ·exact BJ.1 this
theorem Us {j bj rj wj:Nat}:∀ {i:Nat} {l:List (Nat×Nat)},Lh.inner j bj rj wj i l=true→∀ (k r w:Nat),l[k]?=some (r,w)→i+k<j→bj.testBit (i+k)=true∨(w &&& (rj ||| wj)=0∧wj &&& r=0)
 | i,[],_,k,r,w,h,_=>by simp at h
 | i,(r',w')::l,hi,k,r,w,h,hlt=>by
  simp only [Lh.inner] at hi
  split at hi
  ·rename_i hle;have:=Nat.le_of_ble_eq_true hle;omega
  ·split at hi
   ·rename_i hor
    cases k with
    | zero =>
     simp at h
     obtain ⟨rfl,rfl⟩:=h
     simp only [Bool.or_eq_true,Bool.and_eq_true,AA] at hor
     simpa using hor
    | succ k =>
     have:=Us hi k r w (by simpa using h) (by omega)
     rw [show i+(k+1)=i+1+k by omega];exact this
   ·cases hi
theorem Ud {ms:List (Nat×Nat)}:∀ {j:Nat} {bs:List Nat} {l:List (Nat×Nat)},Lh.outer ms j bs l=true→∀ (k b r w:Nat),bs[k]?=some b→l[k]?=some (r,w)→Lh.inner (j+k) b r w 0 ms=true
 | j,[],l,_,k,b,r,w,h,_=>by simp at h
 | j,b'::bs,[],_,k,b,r,w,_,h=>by simp at h
 | j,b'::bs,(r',w')::l,ho,k,b,r,w,h1,h2=>by
  simp only [Lh.outer] at ho
  split at ho
  ·rename_i hi
   cases k with
   | zero =>
    simp at h1 h2
    obtain ⟨rfl,rfl⟩:=h2
    subst h1;exact hi
   | succ k =>
    have:=Ud ho k b r w (by simpa using h1) (by simpa using h2)
    rw [show j+(k+1)=j+1+k by omega];exact this
  ·cases ho
theorem VH {x y p:Nat} (h:x &&& y=0) (hx:x.testBit p=true) (hy:y.testBit p=true):False:=by
 have:=congrArg (fun n=>n.testBit p) h
 simp [Nat.testBit_and,hx,hy] at this
def Pe (D:Nat→Bool):Nat→List Oper→List Nat
 | _,[]=>[]
 | i,o::r=>(match D i with | true=>o.dst.toList | false=>[])++Pe D (i+1) r
theorem Jy {D:Nat→Bool} {d:Nat}:∀ {l:List Oper} {i:Nat},d∈Pe D i l↔∃ k o,l[k]?=some o∧D (i+k)=true∧o.dst=some d
 | [],i=>by simp [Pe]
 | x::l,i=>by
  simp only [Pe,List.mem_append,Jy (l:=l)]
  constructor
  ·rintro (h | ⟨k,o,h1,h2,h3⟩)
   ·cases hD:D i with
    | true=>rw [hD] at h;exact ⟨0,x,rfl,hD,by simpa using h⟩
    | false=>rw [hD] at h;simp at h
   ·exact ⟨k+1,o,by simpa using h1,by rw [show i+(k+1)=i+1+k by omega];exact h2,h3⟩
  ·rintro ⟨k,o,h1,h2,h3⟩
   cases k with
   | zero =>
    simp at h1;subst h1
    rw [Nat.add_zero] at h2
    rw [h2];exact .inl (by simpa using h3)
   | succ k=>exact .inr ⟨k,o,by simpa using h1,by rw [show i+1+k=i+(k+1) by omega];exact h2,h3⟩
theorem Ul:∀ {l:List Oper},(AX l).Nodup→∀ {i j:Nat} {o o':Oper} {d:Nat},l[i]?=some o→l[j]?=some o'→o.dst=some d→o'.dst=some d→i=j
 | [],_,i,j,o,o',d,h,_,_,_=>by simp at h
 | x::l,hn,i,j,o,o',d,hi,hj,ho,ho'=>by
  have hn2:(AX l).Nodup:=by
   simp only [AX] at hn
   cases hx:x.dst with
   | none=>rw [hx] at hn;exact hn
   | some y=>rw [hx] at hn;exact (List.nodup_cons.1 hn).2
  have hx:∀ {y},x.dst=some y→y∉AX l:=fun {y} hx=>by
   simp only [AX] at hn
   rw [hx] at hn;exact (List.nodup_cons.1 hn).1
  cases i with
  | zero =>
   cases j with
   | zero=>rfl
   | succ j =>
    simp at hi;subst hi
    exact (hx ho (G8 (l:=l) (k:=j) (by simpa using hj) ho')).elim
  | succ i =>
   cases j with
   | zero =>
    simp at hj;subst hj
    exact (hx ho' (G8 (l:=l) (k:=i) (by simpa using hi) ho)).elim
   | succ j=>exact congrArg (·+1) (Ul hn2 (by simpa using hi) (by simpa using hj) ho ho')
structure Inv (P:Program) (n0:Nz) (nt L:Nat) (ops:List Oper) (tr:List (Rc E N)) (β:Nat→Option Nat) (σ:Nat→Option (Nat×Nat)) (s:St0 E N) (a:Act) (w:World) (D:Nat→Bool) (a':Act) (w':World):Prop where
 post:∃ β' σ',Post P n0 nt L (fun n=>n∈AX ops) β σ s a w β' σ' (stD D 0 tr s) a' w'
 gi:GI (stD D 0 tr s) (Pe D 0 ops)
 fresh:∀ n,L≤n→(∀ (i:Nat) (o:Oper) (t:Rc E N),D i=true→ops[i]?=some o→tr[i]?=some t→¬ (t.id≤n∧n<t.id+BQ P o))→Fresh a' (stD D 0 tr s) n
theorem X0 {p q:Nat→Bool} (h:∀ x,q x=true→p x=true):∀ l:List Nat,(l.filter q).length≤(l.filter p).length
 | []=>Nat.le_refl _
 | x::l=>by
  have ih:=X0 h l
  simp only [List.filter_cons]
  cases hq:q x with
  | true=>rw [h x hq];simp;exact ih
  | false =>
   cases p x with
   | true=>simp;omega
   | false=>simpa using ih
theorem X7 {p q:Nat→Bool} {i:Nat} (hp:p i=true) (hq:q i=false) (h:∀ x,q x=true→p x=true):∀ l:List Nat,i∈l→(l.filter q).length<(l.filter p).length
 | [],hi=>by simp at hi
 | x::l,hi=>by
  simp only [List.filter_cons]
  rcases List.mem_cons.1 hi with rfl | hi
  ·rw [hp,hq]
   have:=X0 h l
   simp;omega
  ·have ih:=X7 hp hq h l hi
   cases hqx:q x with
   | true=>rw [h x hqx];simp;exact ih
   | false =>
    cases p x with
    | true=>simp;omega
    | false=>simpa using ih
theorem dF (hΓ : ∀ ci ∈ cfg.gam, BU P E N ci ∧ BU P E N { ci with own := false }) {ops : Array Oper} (hnd : (AX ops.toList).Nodup) (hgd : DX ops.toList 0 (Bg ops.toList []) ops.toList = true)
    (hback:Tb 0 ops.toList=true) (hdn:∀ d∈AX ops.toList,d<nt) {Q:Exit→Act→World→Prop} {L:Nat} {tr:List (Rc E N)} (htr:TrOK P cfg ops.toList ops.toList L s tr)
    (hap:Lh (Bg ops.toList []) (tr.map fun t=>(t.rd,t.wr.mask))=true)
    (hQ:∀ D a' w',(∀ i,i<ops.size→D i=true)→Inv P n0 nt L ops.toList tr β σ s a w D a' w'→Q .normal a' w') :
    ∀ (fuel:Nat) (Ae:Array Bool) (a':Act) (w':World),Ae.size=ops.size→((List.range ops.size).filter fun i => !Ae.getD i false).length≤fuel →
      (∀ i j,Ae.getD i false=true→((Bg ops.toList []).getD i 0).testBit j=true→Ae.getD j false=true) →
      Inv P n0 nt L ops.toList tr β σ s a w (fun i=>Ae.getD i false) a' w'→wpAny P .any ops Q fuel Ae a' w':=by
  have hlen:=htr.len
  have hbs:(Bg ops.toList []).length=ops.toList.length:=by
    have:∀ (l:List Oper) (acc:List Nat),(Bg l acc).length=acc.length+l.length:=fun l=>by
      induction l with
      | nil=>intro acc;simp [Bg]
      | cons x l ih=>intro acc;simp only [Bg];rw [ih];simp;omega
    rw [this];simp
  have Nx:∀ (i j:Nat) (t u:Rc E N),i<j→tr[i]?=some t→tr[j]?=some u→((Bg ops.toList []).getD j 0).testBit i=true∨(t.wr.mask &&& (u.rd ||| u.wr.mask)=0∧u.wr.mask &&& t.rd=0):=fun i j t u hij ht hu=>by
    have hj:j<ops.toList.length:=by rw [← hlen];exact (List.getElem?_eq_some_iff.1 hu).1
    have h1:=Ud (j:=0) hap j ((Bg ops.toList []).getD j 0) u.rd u.wr.mask (by
      rw [List.getD_eq_getElem?_getD]
      rw [List.getElem?_eq_getElem (by rw [hbs];exact hj)];rfl) (by rw [List.getElem?_map,hu];rfl)
    rw [Nat.zero_add] at h1
    have:=Us h1 i t.rd t.wr.mask (by rw [List.getElem?_map,ht];rfl) (by omega)
    rwa [Nat.zero_add] at this
  have allDone:∀ (Ae:Array Bool),Region.ready .any ops Ae=[]→Ae.size=ops.size→∀ i,i<ops.size→Ae.getD i false=true:=fun Ae hr hsz i=>by
    induction i using Nat.strongRecOn with
    | _ i ih =>
      intro hi
      cases hl:Ae.getD i false with
      | true=>rfl
      | false =>
        have:i∈Region.ready .any ops Ae:=by
          rw [mem_ready]
          refine ⟨?_,ops[i],by simp [hi],fun e he hb=>?_⟩
          · rw [Array.getD_eq_getD_getElem?] at hl ⊢
            rw [Array.getElem?_eq_getElem (by rw [hsz];exact hi)] at hl ⊢
            simpa using hl
          · have:=WU hback i ops[i] (by simp [hi]) e (by simpa using he) hb
            exact ih e.on (by omega) (by omega)
        rw [hr] at this;simp at this
  intro fuel
  induction fuel with
  | zero =>
    intro Ae a' w' hsz hf hcl inv
    have hall:∀ i,i<ops.size→Ae.getD i false=true:=fun i hi=>by
      have h0:((List.range ops.size).filter fun i => !Ae.getD i false)=[]:=List.length_eq_zero_iff.1 (by omega)
      have:=List.filter_eq_nil_iff.1 h0 i (List.mem_range.2 hi)
      simpa using this
    refine ⟨?_,hQ _ a' w' hall inv⟩
    cases hr:Region.ready .any ops Ae with
    | nil=>rfl
    | cons x l =>
      have hx:x∈Region.ready .any ops Ae:=by rw [hr];exact List.mem_cons_self
      rw [mem_ready] at hx
      obtain ⟨h1,o,h2,_⟩:=hx
      have hi:=(Array.getElem?_eq_some_iff.1 h2).1
      have:=hall x hi
      rw [Array.getD_eq_getD_getElem?] at h1 this
      rw [Array.getElem?_eq_getElem (by rw [hsz];exact hi)] at h1 this
      simp at h1 this
      rw [this] at h1;cases h1
  | succ fuel ih =>
    intro Ae a' w' hsz hf hcl inv
    refine ⟨fun hr=>hQ _ a' w' (allDone Ae hr hsz) inv,fun i hi=>?_⟩
    rw [mem_ready] at hi
    obtain ⟨h1,o,ho,haft⟩:=hi
    have hisz:=(Array.getElem?_eq_some_iff.1 ho).1
    have hoL:ops.toList[i]?=some o:=by rw [Array.getElem?_toList];exact ho
    have hDi:Ae.getD i false=false:=by
      rw [Array.getD_eq_getD_getElem?] at h1 ⊢
      rw [Array.getElem?_eq_getElem (by rw [hsz];exact hisz)] at h1 ⊢
      simpa using h1
    have htl:i<tr.length:=by rw [hlen];simpa using hisz
    obtain ⟨t,ht⟩:∃ t,tr[i]?=some t:=⟨tr[i],by simp [htl]⟩
    have hbef:∀ j,((Bg ops.toList []).getD i 0).testBit j=true→Ae.getD j false=true:=fun j hj=>by
      obtain ⟨e,he,hb,h3⟩:=Uf ops.toList [] i o hoL j (by simpa using hj)
      have hd:=haft e (by simpa using he) hb
      rcases h3 with rfl | ⟨_,h3⟩
      · exact hd
      · exact hcl e.on j hd h3
    have hgood:=htr.good (i:=0) i o t hoL ht
    rw [Nat.zero_add] at hgood
    have hgood2:OpGood P cfg ops.toList o (stD (fun i=>Ae.getD i false) 0 tr s) t:=hgood.agree (fun p hp=>OI rfl (fun k u hk hu=>by
      rw [Nat.zero_add]
      rcases Nat.lt_trichotomy k i with hlt | rfl | hgt
      · rcases Nx k i u t hlt hk ht with h | ⟨h,_⟩
        · rw [hbef k h];simpa using hlt
        · exact (VH h hu (by rw [Nat.testBit_or,hp];rfl)).elim
      · rw [hDi];simp
      · rcases Nx i k t u hgt ht hk with h | ⟨_,h⟩
        · cases hD:Ae.getD k false with
          | false=>simp;omega
          | true=>have:=hcl k i hD h;rw [hDi] at this;cases this
        · exact (VH h hu hp).elim))
    have hset:∀ j,(Ae.setIfInBounds i true).getD j false=(Ae.getD j false||decide (j=i)):=fun j=>by
      by_cases hji:j=i
      · subst hji
        rw [Array.getD_eq_getD_getElem?,Array.getElem?_setIfInBounds]
        simp [hsz,hisz]
      · rw [getD_set_ne _ (fun e=>hji e.symm)];simp [hji]
    have hsame:Same ((stD (fun i=>Ae.getD i false) 0 tr s).apply t.wr) (stD (fun j=>(Ae.setIfInBounds i true).getD j false) 0 tr s):=fun p=>by
      by_cases hp:t.wr.mask.testBit p=true
      · rw [R5 (stD (fun i => Ae.getD i false) 0 tr s) (D := fun j => (Ae.setIfInBounds i true).getD j false) (i := 0) (s := s) ht (by rw [Nat.zero_add, hset]; simp) hp (fun j u hj hu hup => by
          rw [Nat.zero_add,hset]
          rcases Nx i j t u hj ht hu with h | ⟨h,_⟩
          · cases hD:Ae.getD j false with
            | false=>simp;omega
            | true=>have:=hcl j i hD h;rw [hDi] at this;cases this
          · exact (VH h hp (by rw [Nat.testBit_or,hup,Bool.or_true])).elim)]
      · rw [Lk hp]
        refine OI rfl (fun k u hk hu=>?_)
        rw [Nat.zero_add,hset]
        have:k≠i:=fun e=>by subst e;rw [ht] at hk;cases hk;exact hp hu
        simp [this]
    obtain ⟨β1,σ1,hpost⟩:=inv.post
    have hdst:∀ d,o.dst=some d→d∉Pe (fun i=>Ae.getD i false) 0 ops.toList∧d<nt:=fun d hd=>by
      refine ⟨fun hm=>?_,hdn d (G8 hoL hd)⟩
      obtain ⟨k,o',h2,h3,h4⟩:=Jy.1 hm
      have:=Ul hnd hoL h2 hd h4
      subst this
      rw [Nat.zero_add,hDi] at h3;cases h3
    have hgdone:∀ j want d,o.guard=some (j,want)→(ops[j]?).bind (·.dst)=some d→d∈Pe (fun i=>Ae.getD i false) 0 ops.toList:=fun j want d h2 h3=>by
      have hb:((Bg ops.toList []).getD i 0).testBit j=true:=by
        have:∀ (l:List Oper) (bs:List Nat) (q k:Nat),DX ops.toList q bs l=true→l[k]?=some o→(bs.getD k 0).testBit j=true:=fun l=>by
          induction l with
          | nil=>intro bs q k _ h;simp at h
          | cons x l ih =>
            intro bs q k hg hk
            cases bs with
            | nil=>simp [DX] at hg
            | cons b bs =>
              simp only [DX] at hg
              cases k with
              | zero =>
                simp at hk;subst hk
                rw [h2] at hg
                simp only [Bool.and_eq_true] at hg
                exact hg.1.1.2
              | succ k =>
                have hg2:DX ops.toList (q+1) bs l=true:=by
                  split at hg
                  · exact hg
                  · simp only [Bool.and_eq_true] at hg;exact hg.2
                exact ih bs (q+1) k hg2 (by simpa using hk)
        exact this _ _ 0 i hgd hoL
      obtain ⟨x,hx,hxd⟩:=Option.bind_eq_some_iff.1 h3
      exact Jy.2 ⟨j,x,by rw [Array.getElem?_toList];exact hx,by rw [Nat.zero_add];exact hbef j hb,hxd⟩
    obtain ⟨ids1,ids2⟩:=htr.ids
    have hid:∀ n,t.id≤n→n<t.id+BQ P o→Fresh a' (stD (fun i=>Ae.getD i false) 0 tr s) n:=fun n hn1 hn2=>inv.fresh n (Nat.le_trans (ids1 i t ht) hn1) (fun k o' u hk ho' hu hc=>by
      rcases Nat.lt_trichotomy k i with hlt | rfl | hgt
      · have:=ids2 k i o' u t hlt ho' hu ht;omega
      · rw [hDi] at hk;cases hk
      · have:=ids2 i k o t u hgt hoL ht hu;omega)
    have next : ∀ a2 w2, After P n0 nt (fun n => t.id ≤ n ∧ n < t.id + BQ P o) β1 σ1 (stD (fun i => Ae.getD i false) 0 tr s) a' w' o.dst t.wr a2 w2 → GI ((stD (fun i => Ae.getD i false) 0 tr s).apply t.wr) (o.dst.toList ++ Pe (fun i => Ae.getD i false) 0 ops.toList) →
        wpAny P .any ops Q fuel (Ae.setIfInBounds i true) a2 w2:=fun a2 w2 haf hgi=>by
      refine ih _ a2 w2 (by simp [hsz]) ?_ (fun x y hx hy=>?_) ⟨?_,?_,fun n hn hno=>?_⟩
      · have hlt : ((List.range ops.size).filter fun j => !(Ae.setIfInBounds i true).getD j false).length < ((List.range ops.size).filter fun j => !Ae.getD j false).length := by
          refine X7 (i:=i) (by simp only [hDi];rfl) (by rw [hset];simp) (fun x hx=>?_) _ (List.mem_range.2 hisz)
          rw [hset] at hx
          cases hlx:Ae.getD x false with
          | false=>rfl
          | true=>rw [hlx] at hx;simp at hx
        omega
      · rw [hset] at hx ⊢
        by_cases hxi:x=i
        · subst hxi;rw [hbef y hy];rfl
        · have hx':Ae.getD x false=true:=by simpa [hxi] using hx
          rw [hcl x y hx' hy];rfl
      · obtain ⟨β2,σ2,r1,r2,r3,r4,r5,r6,r7⟩:=haf
        have p2:Post P n0 nt L (fun n=>n∈AX ops.toList) β1 σ1 (stD (fun i=>Ae.getD i false) 0 tr s) a' w' β2 σ2 ((stD (fun i=>Ae.getD i false) 0 tr s).apply t.wr) a2 w2 :=
          ⟨r1,r2.weaken (fun n hn=>Nat.le_trans (ids1 i t ht) hn.1),r4,r5,r6,fun n hn=>r7 n (fun e=>hn (G8 hoL e))⟩
        have p3:=(hpost.trans p2 (Nat.le_refl _)).same hsame
        exact ⟨β2,σ2,⟨p3.sim,p3.ext,p3.cleanB,p3.cleanH,p3.defers,fun n hn=>p3.tmps n (fun h=>hn (h.elim (fun h=>h) (fun h=>h)))⟩⟩
      · refine (hgi.same hsame).mono (fun d hd=>?_)
        rcases List.mem_append.1 hd with h | h
        · exact Jy.2 ⟨i,o,hoL,by rw [Nat.zero_add,hset];simp,by simpa using h⟩
        · obtain ⟨k,o',q1,q2,q3⟩:=Jy.1 h
          exact Jy.2 ⟨k,o',q1,by rw [Nat.zero_add] at q2 ⊢;rw [hset];simp [q2],q3⟩
      · obtain ⟨β2,σ2,r1,r2,r3,r4⟩:=haf
        refine (r3 n (inv.fresh n hn (fun k o' u hk=>hno k o' u (by rw [hset,hk];rfl))) (fun hc=>?_)).same hsame
        exact hno i o t (by rw [hset];simp) hoL ht hc
    rcases hgood2 with ⟨as,hrun,has⟩ | ⟨g,f,fns,ls,dm,nx,c,hrun,hc,hn⟩
    · exact Sw hpost.sim inv.gi hgdone hdst hid ho hrun has next
    · exact Ua hΓ hpost.sim inv.gi hgdone hdst hid ho hrun (c := c) (by
        cases g with
        | none=>exact hc
        | some b=>exact hc) hn next
end
end Go.Px
end
section
namespace Go.Px
section
variable {E:Env} {N:Nat} {P:Program} {cfg:Cfg} {n0 n0':Nz} {nt:Nat} {β β':Nat→Option Nat} {σ σ':Nat→Option (Nat×Nat)} {s s' s2:St0 E N} {a:Act} {w w':World}
theorem Sim.grow (hs:Sim P n0 nt β σ s a w) (g:Grow w w'):Sim P n0 nt β σ s a w':=by
 have x:=g.ext P (fun _=>False) β σ s
 refine ⟨Nat.le_trans hs.n0le g.size,hs.size,fun n tv hn=>?_,hs.M.grow g⟩
 rcases hs.T n tv hn with ⟨h1,h2⟩ | h1
 ·exact .inl ⟨h1,x.relAV (fun _ _ h=>h) h2⟩
 ·exact .inr h1
theorem Zx {D:Nat→Bool} (h:∀ i,D i=false):∀ (tr:List (Rc E N)) (i:Nat) (s:St0 E N),stD D i tr s=s
 | [],i,s=>rfl
 | t::tr,i,s=>by
  simp only [stD,h i]
  exact Zx h tr _ _
theorem aU (hmix : P.follows .mixedOrders = true) (inl : Inl E N) (hΓ : ∀ ci ∈ cfg.gam, BU P E N ci ∧ BU P E N { ci with own := false }) {ops : Array Oper} {rid : Nat} (hdn : I3 nt ops.toList = true) {Q : Exit → Act → World → Prop} {r : List PV}
    {k:St0 E N→Option (List PV)} (h:Hz (O:=std E N) P cfg inl ops.toList true s k=some r) (hs:Sim P n0 nt β σ s a w) (wf:WF s)
    (hQ:∀ (s':St0 E N) (β':Nat→Option Nat) (σ':Nat→Option (Nat×Nat)) (a':Act) (w':World),k s'=some r→Post P n0 nt s.st (fun n=>n∈AX ops.toList) β σ s a w β' σ' s' a' w'→WF s'→s.st≤s'.st→Q .normal a' w') :
    (Code.region rid ops true).wp P Q a w:=by
  unfold Hz at h
  split at h
  · cases h
  · rename_i hok
    simp only [Bool.and_eq_true] at hok
    obtain ⟨tr,id',htr,h2,hid,hids⟩:=Xx inl _ _ _ _ _ h
    simp only [Bool.not_true,Bool.false_or,List.nil_append] at h2
    split at h2
    · cases h2
    rename_i hap
    have g:Grow w { w with drawn:=w.drawn+1 }:=⟨rfl,rfl,rfl,Nat.le_refl _,fun _ _=>rfl⟩
    have hs0:=hs.grow g
    have hD0:∀ i,(Array.replicate ops.size false).getD i false=false:=fun i=>by
      rw [Array.getD_eq_getD_getElem?]
      by_cases hi:i<ops.size
      · rw [Array.getElem?_eq_getElem (by simpa using hi)];simp
      · rw [Array.getElem?_eq_none (by simpa using hi)];rfl
    refine wp_region_any hmix ?_
    refine dF (n0:=n0) (L:=s.st) (β:=β) (σ:=σ) (a:=a) (w:={ w with drawn:=w.drawn+1 }) hΓ (RE hok.1) hok.2.1 hok.2.2 (Ph hdn) htr hap (fun D a' w' hall inv=>?_) ops.size _ a _ (by simp) ?_ (fun i j hi=>?_) ?_
    · obtain ⟨β',σ',hp⟩:=inv.post
      have hsame:Same (stD D 0 tr s) (stD (fun _=>true) 0 tr s):=fun p=>OI rfl (fun k t hk _=>by
        rw [Nat.zero_add]
        refine hall k ?_
        have:=(List.getElem?_eq_some_iff.1 hk).1
        rw [htr.len] at this
        simpa using this)
      have hp1:=hp.same hsame
      have hp2:Post P n0 nt s.st (fun n=>n∈AX ops.toList) β σ s a w β' σ' (stD (fun _=>true) 0 tr s) a' w' :=
        ⟨hp1.sim,((g.ext P (fun _=>False) β σ s).trans hp1.ext).weaken (fun n h=>h.elim (fun h=>h.elim) (fun h=>h)),hp1.cleanB,hp1.cleanH,hp1.defers,hp1.tmps⟩
      have hf:∀ n,id'≤n→Fresh a' (stD (fun _=>true) 0 tr s) n:=fun n hn=>(inv.fresh n (Nat.le_trans hid hn) (fun i o t _ ho ht hc=>by
        have:=hids i o t ho ht;omega)).same hsame
      have wf':WF ({ stD (fun _=>true) 0 tr s with tm:=Ff (stD (fun _=>true) 0 tr s).tm,st:=id' }:St0 E N):=⟨fun n hn=>⟨⟨(hf n hn).b,(hf n hn).h⟩,fun k tv hk=>by
        obtain ⟨h1,h2⟩:=Ip hk
        exact (hf n hn).t k tv h1 (fun m b hm=>by rw [h2] at hm;simp at hm)⟩,fun n tv hn=>(Ip hn).2⟩
      have sub:Sub (stD (fun _=>true) 0 tr s) ({ stD (fun _=>true) 0 tr s with tm:=Ff (stD (fun _=>true) 0 tr s).tm,st:=id' }:St0 E N):=Sub.of_same (fun _=>rfl) (fun _=>rfl)
      exact hQ _ β' σ' a' w' h2 ⟨hp2.sim.purged id',(hp2.ext.trans (sub.ext P (fun _=>False) β' σ' w')).weaken (fun n h=>h.elim (fun h=>h) (fun h=>h.elim)),hp2.cleanB,hp2.cleanH,hp2.defers,hp2.tmps⟩ wf' hid
    · have:=List.length_filter_le (fun i => !(Array.replicate ops.size false).getD i false) (List.range ops.size)
      simpa using this
    · rw [hD0] at hi;cases hi
    · have e:=Zx (fun i=>hD0 i) tr 0 s
      refine ⟨⟨β,σ,?_⟩,?_,fun n hn _=>?_⟩
      · rw [e];exact ⟨hs0,Ext.refl _ _ _ _ _ _,fun n e h _=>h,fun n e h _=>h,rfl,fun _ _=>rfl⟩
      · rw [e];exact wf.gi.mono (fun x hx=>by simp at hx)
      · rw [e];exact wf.free a n hn
end
end Go.Px
end
section
namespace Go.Px
section
variable {E:Env} {N:Nat} {P:Program} {cfg:Cfg} {n0 n0':Nz} {nt:Nat} {β β':Nat→Option Nat} {σ σ':Nat→Option (Nat×Nat)} {s s' s2:St0 E N} {a:Act} {w w':World}
structure Enc (s:St0 E N) (keep used used':List Nat) (os:List (Option Nat)) (fr:List (Nat×Option (HEnt (std E N)))):Prop where
 up:∀ n∈used,n∈used'
 src:∀ n,some n∈os→n∉used∧n∈used'∧n∉keep∧∃ h,s.getH n=some h∧h.frozen=false
 nd:(os.filterMap id).Nodup
 ok:FrOK s fr
 fz:∀ y∈fr,∃ h,s.getH y.1=some h∧(h.frozen=true∨(y.1∉used∧y.1∈used'∧y.1∉keep))
 ap:∀ y∈fr,some y.1∉os
theorem Enc.nil {keep used:List Nat}:Enc s keep used used [] [] :=
 ⟨fun _ h=>h,fun _ h=>by simp at h,List.nodup_nil,fun _ _ h=>by simp at h,fun _ h=>by simp at h,fun _ h=>by simp at h⟩
theorem Enc.append {keep used u u' : List Nat} {os os' : List (Option Nat)} {fr fr' : List (Nat × Option (HEnt (std E N)))} (h : Enc s keep used u os fr) (k : Enc s keep u u' os' fr') :
    Enc s keep used u' (os++os') (fr++fr') where
  up n hn:=k.up n (h.up n hn)
  src n hn:=by
    rcases List.mem_append.1 hn with hn | hn
    · obtain ⟨a1,a2,a3⟩:=h.src n hn;exact ⟨a1,k.up n a2,a3⟩
    · obtain ⟨a1,a2,a3⟩:=k.src n hn;exact ⟨fun hm=>a1 (h.up n hm),a2,a3⟩
  nd:=by
    rw [List.filterMap_append]
    refine List.nodup_append.2 ⟨h.nd,k.nd,fun x hx y hy e=>?_⟩
    subst e
    have h1:some x∈os:=by simpa using hx
    have h2:some x∈os':=by simpa using hy
    exact (k.src x h2).1 (h.src x h1).2.1
  ok:=h.ok.append k.ok
  fz y hy:=by
    rcases List.mem_append.1 hy with hy | hy
    · obtain ⟨e,a1,a2⟩:=h.fz y hy
      exact ⟨e,a1,a2.imp (fun h=>h) (fun h=>⟨h.1,k.up _ h.2.1,h.2.2⟩)⟩
    · obtain ⟨e,a1,a2⟩:=k.fz y hy
      exact ⟨e,a1,a2.imp (fun h=>h) (fun g=>⟨fun hm=>g.1 (h.up _ hm),g.2⟩)⟩
  ap y hy hm:=by
    rcases List.mem_append.1 hy with hy | hy<;>rcases List.mem_append.1 hm with hm | hm
    · exact h.ap y hy hm
    · obtain ⟨e,a1,a2⟩:=h.fz y hy
      obtain ⟨b1,b2,b3,e',b4,b5⟩:=k.src _ hm
      rw [a1] at b4;cases b4
      rcases a2 with a2 | a2
      · rw [a2] at b5;cases b5
      · exact b1 a2.2.1
    · obtain ⟨e,a1,a2⟩:=k.fz y hy
      obtain ⟨b1,b2,b3,e',b4,b5⟩:=h.src _ hm
      rw [a1] at b4;cases b4
      rcases a2 with a2 | a2
      · rw [a2] at b5;cases b5
      · exact a2.1 b2
    · exact k.ap y hy hm
def Holds (cv:List PV) (j:Nat) (ls:List AY):Prop:=∀ (i:Nat) (l:AY),ls[i]?=some l→AD cv (j+i)=l.pv
theorem Holds.left {cv:List PV} {j:Nat} {a b:List AY} (h:Holds cv j (a++b)):Holds cv j a:=fun i l hl=>h i l (by
 rw [List.getElem?_append_left (List.getElem?_eq_some_iff.1 hl).1];exact hl)
theorem Holds.right {cv:List PV} {j:Nat} {a b:List AY} (h:Holds cv j (a++b)):Holds cv (j+a.length) b:=fun i l hl=>by
 have:=h (a.length+i) l (by rw [List.getElem?_append_right (by omega)];simpa using hl)
 rw [Nat.add_assoc];exact this
abbrev BV (E:Env) (N:Nat) (cv:List PV) (j q:Nat) (sc:SlotC):AC0 E N×List (Nat×HEnt (std E N)):=HG (O:=std E N) cv j q sc
abbrev AH (E:Env) (N:Nat) (cv:List PV) (j q:Nat) (scs:List SlotC):List (AC0 E N)×List (Nat×HEnt (std E N)):=Jb (O:=std E N) cv j q scs
theorem U2 (m : Mem P n0 β σ s w) {c : AC0 E N} {v : Value} {t : TypeId} {r : Rows} {fr : List (Nat × Option (HEnt (std E N)))} {nw nw' : Bool} (hc : RelC P n0 β σ s w c v) (ht : A5 (AJ P t) c = true)
    {k':Nat} (h:RM.run s (Xi (O:=std E N) c) 0=.ok ((.rows r,fr,nw),k')) (hn:nw'=true→nw=true) {sf:St0 E N} (hsub:Sub s sf) (hf:Frz sf fr):Rep P w (StB n0 β σ sf nw') t v (.rows r):=by
  obtain ⟨_,_,h3⟩:=T6 m hc h
  exact h3 t sf ht hsub (fun x hx h hh=>by obtain ⟨h',e1,e2⟩:=hf x hx;rw [e1] at hh;cases hh;exact e2) (fun x hx=>by obtain ⟨h',e1,_⟩:=hf x hx;exact ⟨h',e1⟩) nw' hn
theorem fP (m : Mem P n0 β σ s w) {keep used u : List Nat} {sc : SlotC} {c : AC0 E N} {l : AY} (h : Jf (O := std E N) s keep used sc c = .ok (l, u)) {v : Value} (hc : RelC P n0 β σ s w c v)
    {cv:List PV} {j:Nat} (hl:AD cv j=l.pv) (q:Nat) :
    ∃ (os:List (Option Nat)) (fr:List (Nat×Option (HEnt (std E N)))),Enc s keep used u os fr∧Ents P s q os (BV E N cv j q sc).2∧(∀ p∈(BV E N cv j q sc).2,p.2.dirty=true) ∧
      (∀ n∈(BV E N cv j q sc).1.names,q≤n∧n<q+(BV E N cv j q sc).2.length) ∧
      ∀ (sf:St0 E N),Sub s sf→Frz sf fr→∀ (σ2:Nat→Option (Nat×Nat)) (S:St0 E N),(∀ nw b,StB n0 β σ sf nw b→StB n0 β σ2 S nw b)→Wired σ σ2 S q os (BV E N cv j q sc).2→RelC P n0 β σ2 S w (BV E N cv j q sc).1 v:=by
  cases sc with
  | int k =>
    cases c<;>simp only [Jf] at h<;>try cases h
    rename_i k' i
    split at h<;>cases h
    rename_i hk
    have:=Gd.1 hk;subst this
    refine ⟨[],[],Enc.nil,trivial,fun p hp=>by simp [BV,HG] at hp,fun n hn=>by simp [BV,HG,AC.names] at hn,fun sf _ _ σ2 S _ _=>?_⟩
    have hv:v=.int k i:=hc
    show v=.int k (pvI (AD cv j))
    rw [hl];exact hv
  | bool =>
    cases c<;>simp only [Jf] at h<;>try cases h
    rename_i b
    refine ⟨[],[],Enc.nil,trivial,fun p hp=>by simp [BV,HG] at hp,fun n hn=>by simp [BV,HG,AC.names] at hn,fun sf _ _ σ2 S _ _=>?_⟩
    have hv:v=.bool b:=hc
    show v=.bool (pvB (AD cv j))
    rw [hl];exact hv
  | str =>
    cases c<;>simp only [Jf] at h<;>try cases h
    rename_i b
    refine ⟨[],[],Enc.nil,trivial,fun p hp=>by simp [BV,HG] at hp,fun n hn=>by simp [BV,HG,AC.names] at hn,fun sf _ _ σ2 S _ _=>?_⟩
    have hv:v=.string b:=hc
    show v=.string (pvS (AD cv j))
    rw [hl];exact hv
  | own e nw =>
    have one:∀ n∈(BV E N cv j q (.own e nw)).1.names,q≤n∧n<q+(BV E N cv j q (.own e nw)).2.length:=fun n hn=>by
      simp [BV,HG,AC.names] at hn;subst hn;simp [BV,HG]
    have dt:∀ p∈(BV E N cv j q (.own e nw)).2,p.2.dirty=true:=fun p hp=>by simp [BV,HG] at hp;subst hp;rfl
    cases c<;>simp only [Jf] at h<;>try cases h
    · rename_i e'
      split at h<;>cases h
      rename_i he
      have:=AA.1 he;subst this
      obtain ⟨t0,ts0,ht0,hts0,av,hv⟩:=hc
      have hl':pvL (AD cv j)=[]:=by rw [hl];rfl
      refine ⟨[none],[],⟨fun _ h=>h,fun n hn=>by simp at hn,List.nodup_nil,fun _ _ h=>by simp at h,fun _ h=>by simp at h,fun _ h=>by simp at h⟩,⟨rfl,rfl,⟨hl',t0,ts0,ht0,hts0⟩,trivial⟩,dt,one,fun sf _ _ σ2 S _ hw=>⟨⟨_,_,_,hv⟩,fun h3 hh3=>?_⟩⟩
      rw [hw.2.1] at hh3;cases hh3
      exact ⟨rfl,.inr ⟨hw.1,by show (pvL (AD cv j)).length=0;rw [hl'];rfl,av,hv⟩⟩
    · rename_i e' id
      cases hh:s.getH id with
      | none=>rw [hh] at h;cases h
      | some en =>
        rw [hh] at h
        simp only at h
        split at h<;>cases h
        rename_i hg
        simp only [Bool.and_eq_true,Bool.not_eq_true',Bool.or_eq_true] at hg
        obtain ⟨⟨⟨⟨⟨g1,g2⟩,g3⟩,g4⟩,g5⟩,g6⟩:=hg
        have e1:=AA.1 g1
        have e2:=AA.1 g2
        subst e1
        have nu:id∉used:=fun hm=>by rw [B5.2 hm] at g5;cases g5
        have nk:id∉keep:=fun hm=>by rw [B5.2 hm] at g6;cases g6
        have hl':pvL (AD cv j)=en.l:=by rw [hl];rfl
        refine ⟨[some id],[],⟨fun _ h=>List.mem_cons_of_mem _ h,fun n hn=>?_,by simp,fun _ _ h=>by simp at h,fun _ h=>by simp at h,fun _ h=>by simp at h⟩,⟨rfl,rfl,⟨en,hh,e2,hl',g3,fun h=>?_⟩,trivial⟩,dt,one,fun sf _ _ σ2 S _ hw=>?_⟩
        · simp at hn;subst hn
          exact ⟨nu,List.mem_cons_self,nk,en,hh,g3⟩
        · have h':nw=true:=h
          rcases g4 with g4 | g4
          · exact g4
          · rw [h'] at g4;cases g4
        · exact Xo (h':={ e:=e,frozen:=false,nw:=nw,l:=pvL (AD cv j),dirty:=true }) hc hh e2 hl' hw.1 hw.2.1
  | imm e nw =>
    have one:∀ n∈(BV E N cv j q (.imm e nw)).1.names,q≤n∧n<q+(BV E N cv j q (.imm e nw)).2.length:=fun n hn=>by
      simp [BV,HG,AC.names] at hn
    have dt:∀ p∈(BV E N cv j q (.imm e nw)).2,p.2.dirty=true:=fun p hp=>by simp [BV,HG] at hp
    cases c<;>simp only [Jf] at h<;>try cases h
    · rename_i e'
      split at h<;>cases h
      rename_i he
      have:=AA.1 he;subst this
      have hl':pvL (AD cv j)=[]:=by rw [hl];rfl
      refine ⟨[],[],Enc.nil,trivial,dt,one,fun sf hsub hf σ2 S hst _=>?_⟩
      have hc0:=hc
      obtain ⟨t0,ts0,ht0,hts0,av,hv⟩:=hc0
      refine ⟨t0,ht0,?_⟩
      show Rep P w _ t0 v (.rows (pvL (AD cv j)))
      rw [hl']
      exact (U2 m (nw':=nw) hc (t:=t0) (by rw [ht0];exact he) rfl (fun _=>rfl) hsub hf).st (hst nw)
    · rename_i e' nw' r
      split at h<;>cases h
      rename_i hg
      simp only [Bool.and_eq_true,Bool.not_eq_true',Bool.or_eq_true] at hg
      have:=AA.1 hg.1;subst this
      have hl':pvL (AD cv j)=r:=by rw [hl];rfl
      refine ⟨[],[],Enc.nil,trivial,dt,one,fun sf hsub hf σ2 S hst _=>?_⟩
      have hc0:=hc
      obtain ⟨t0,ht0,hv⟩:=hc0
      refine ⟨t0,ht0,?_⟩
      show Rep P w _ t0 v (.rows (pvL (AD cv j)))
      rw [hl']
      exact (U2 m (nw':=nw) hc (t:=t0) (by rw [ht0];exact hg.1) rfl (fun h=>by
        rcases hg.2 with h1 | h1
        · exact h1
        · rw [h] at h1;cases h1) hsub hf).st (hst nw)
    · rename_i e' id
      cases hh:s.getH id with
      | none=>rw [hh] at h;cases h
      | some en =>
        rw [hh] at h
        simp only at h
        split at h<;>cases h
        rename_i hg
        simp only [Bool.and_eq_true,Bool.not_eq_true',Bool.or_eq_true] at hg
        obtain ⟨⟨⟨⟨g1,g2⟩,g3⟩,g4⟩,g5⟩:=hg
        have e1:=AA.1 g1
        have e2:=AA.1 g2
        subst e1
        have nu:id∉used:=fun hm=>by rw [B5.2 hm] at g5;cases g5
        have hl':pvL (AD cv j)=en.l:=by rw [hl];rfl
        refine ⟨[],[(id,some { en with frozen:=true,dirty:=true })],⟨fun n hn=>?_,fun n hn=>by simp at hn,List.nodup_nil,fun n v hm=>?_,fun y hy=>?_,fun y hy=>by simp⟩,trivial,dt,one,fun sf hsub hf σ2 S hst _=>?_⟩
        · cases en.frozen with
          | true=>exact hn
          | false=>exact List.mem_cons_of_mem _ hn
        · simp at hm;obtain ⟨rfl,rfl⟩:=hm;exact ⟨en,hh,rfl⟩
        · simp at hy;subst hy
          refine ⟨en,hh,?_⟩
          cases hz:en.frozen with
          | true=>exact .inl rfl
          | false =>
            refine .inr ⟨nu,List.mem_cons_self,fun hm=>?_⟩
            rw [hz,B5.2 hm] at g4
            simp at g4
        · obtain ⟨t0,ts0,ht0,_⟩:=m.H id en hh
          refine ⟨t0,by rw [ht0,← e2],?_⟩
          show Rep P w _ t0 v (.rows (pvL (AD cv j)))
          rw [hl']
          exact (U2 m (nw':=nw) (nw:=en.nw) (fr:=[(id,some { en with frozen:=true,dirty:=true })]) hc (t:=t0) (by rw [ht0];exact AA.2 e2.symm) (by
            show RM.run s (RM.h id _) 0=_
            simp only [RM.run]
            rw [hh];rfl) (fun h=>by
            rcases g3 with h1 | h1
            · exact h1
            · rw [h] at h1;cases h1) hsub hf).st (hst nw)
end
end Go.Px
end
section
namespace Go.Px
section
variable {E:Env} {N:Nat} {P:Program} {cfg:Cfg} {n0 n0':Nz} {nt:Nat} {β β':Nat→Option Nat} {σ σ':Nat→Option (Nat×Nat)} {s s' s2:St0 E N} {a:Act} {w w':World}
theorem Holds.head {cv:List PV} {j:Nat} {l:AY} {ls:List AY} (h:Holds cv j (l::ls)):AD cv j=l.pv:=h 0 l rfl
theorem Holds.tail {cv:List PV} {j:Nat} {l:AY} {ls:List AY} (h:Holds cv j (l::ls)):Holds cv (j+1) ls:=fun i x hx=>by
 have:=h (i+1) x (by simpa using hx)
 rw [show j+1+i=j+(i+1) by omega];exact this
theorem Pv (m : Mem P n0 β σ s w) {keep : List Nat} : ∀ {scs : List SlotC} {cs : List (AC0 E N)} {vals : List Value} {ls : List AY} {used u : List Nat}, IL (O := std E N) s keep used scs cs = .ok (ls, u) → RelCs P n0 β σ s w cs vals →
    ∀ (cv:List PV) (j:Nat),Holds cv j ls→∀ (q:Nat),ls.length=scs.length ∧
    ∃ (os:List (Option Nat)) (fr:List (Nat×Option (HEnt (std E N)))),Enc s keep used u os fr∧Ents P s q os (AH E N cv j q scs).2∧(∀ p∈(AH E N cv j q scs).2,p.2.dirty=true) ∧
      (∀ n∈AE (AH E N cv j q scs).1,q≤n∧n<q+(AH E N cv j q scs).2.length) ∧
      ∀ (sf:St0 E N),Sub s sf→Frz sf fr→∀ (σ2:Nat→Option (Nat×Nat)) (S:St0 E N),(∀ nw b,StB n0 β σ sf nw b→StB n0 β σ2 S nw b)→Wired σ σ2 S q os (AH E N cv j q scs).2→RelCs P n0 β σ2 S w (AH E N cv j q scs).1 vals
  | [],[],[],ls,used,u,h,_=>by
    intro cv j _ q
    simp only [IL] at h;cases h
    exact ⟨rfl,[],[],Enc.nil,trivial,fun p hp=>by simp [AH,Jb] at hp,fun n hn=>by simp [AH,Jb,AE] at hn,fun _ _ _ _ _ _ _=>trivial⟩
  | sc::scs,c::cs,v::vals,ls,used,u,h,hc=>by
    intro cv j hh q
    simp only [IL] at h
    split at h
    · cases h
    rename_i l u1 h1
    split at h
    · cases h
    rename_i ls2 u2 h2
    cases h
    obtain ⟨os1,fr1,a1,a2,a3,a4,a5⟩:=fP m h1 hc.1 hh.head q
    obtain ⟨hlen,os2,fr2,b1,b2,b3,b4,b5⟩:=Pv m h2 hc.2 _ _ hh.tail (q+(BV E N cv j q sc).2.length)
    have e1:(AH E N cv j q (sc::scs)).1=(BV E N cv j q sc).1::(AH E N cv (j+1) (q+(BV E N cv j q sc).2.length) scs).1:=rfl
    have e2:(AH E N cv j q (sc::scs)).2=(BV E N cv j q sc).2++(AH E N cv (j+1) (q+(BV E N cv j q sc).2.length) scs).2:=rfl
    rw [e1,e2]
    refine ⟨by simp [hlen],os1++os2,fr1++fr2,a1.append b1,a2.append b2,fun p hp=>?_,fun n hn=>?_,fun sf hs hf σ2 S hst hw=>⟨?_,?_⟩⟩
    · exact (List.mem_append.1 hp).elim (a3 p) (b3 p)
    · simp only [AE,List.mem_append] at hn
      rw [List.length_append]
      rcases hn with hn | hn
      · have:=a4 n hn;omega
      · have:=b4 n hn;omega
    · exact a5 sf hs hf.left σ2 S hst (hw.left a2.len)
    · exact b5 sf hs hf.right σ2 S hst (hw.right a2.len)
  | [],_::_,_,_,_,_,h,_=>by simp only [IL] at h;cases h
  | _::_,[],_,_,_,_,h,_=>by simp only [IL] at h;cases h
  | _,[],_::_,_,_,_,_,hc=>hc.elim
  | _,_::_,[],_,_,_,_,hc=>hc.elim
theorem Sn {q : Nat} {r r' : List (Nat × HEnt (std E N))} (h1 : Row q r) (h2 : Row (q + r.length) r') (n : Nat) : AG (r ++ r') n = match AG r' n with
    | some a=>some a
    | none=>AG r n:=by
  rw [F0]
  cases e1:AG r n with
  | none=>cases AG r' n<;>rfl
  | some x =>
    cases e2:AG r' n with
    | none=>rfl
    | some y =>
      have m1:=h1.mem _ (h1.get e1)
      have m2:=h2.mem _ (h2.get e2)
      simp at m1 m2;omega
theorem bL (cv : List PV) (j q n : Nat) (agg : Bool) (cs : List SlotC) (r : List Slot) (u : St0 E N) : BG (O := std E N) cv j q (.t n agg cs :: r) u =
    BG cv (j+cs.length) (q+(AH E N cv j q cs).2.length) r { u with tm:=FY u.tm n (some ⟨[],.val { agg,cs:=(AH E N cv j q cs).1 }⟩),hp:=(AH E N cv j q cs).2++u.hp }:=rfl
theorem RP (cv : List PV) (j q n : Nat) (cs : List SlotC) (r : List Slot) (u : St0 E N) : BG (O := std E N) cv j q (.b n cs :: r) u =
    BG cv (j+cs.length) (q+(AH E N cv j q cs).2.length) r { u with bx:=Kj u.bx n (some { cs:=(AH E N cv j q cs).1,dirty:=true }),hp:=(AH E N cv j q cs).2++u.hp }:=rfl
theorem Si (hs : Sim P n0 nt β σ s a w) {keep : List Nat} : ∀ {sl : List Slot} {used : List Nat} {ls : List AY}, GR (O := std E N) s keep used sl = .ok ls →
    ∀ (cv:List PV) (j:Nat),Holds cv j ls→∀ (q:Nat) (u:St0 E N),∃ (u':List Nat) (NH:List (Nat×HEnt (std E N))) (os:List (Option Nat)) (fr:List (Nat×Option (HEnt (std E N)))),Enc s keep used u' os fr∧Ents P s q os NH∧(∀ p∈NH,p.2.dirty=true) ∧
      (BG (O:=std E N) cv j q sl u).st=q+NH.length∧(∀ n,(BG (O:=std E N) cv j q sl u).getH n=match AG NH n with | some h=>some h | none=>u.getH n) ∧
      ∀ (sf:St0 E N),Sub s sf→Frz sf fr→∀ (σ2:Nat→Option (Nat×Nat)) (S:St0 E N),(∀ nw b,StB n0 β σ sf nw b→StB n0 β σ2 S nw b)→Wired σ σ2 S q os NH →
        (∀ n tv,(BG (O:=std E N) cv j q sl u).getT n=some tv→u.getT n=some tv∨(tv.gs=[]∧RelAV P n0 β σ2 S w tv.v (a.tmps.getD n undef)∧∀ k∈tv.v.names,k<q+NH.length)) ∧
        (∀ n e,(BG (O:=std E N) cv j q sl u).getB n=some e→u.getB n=some e∨(e.dirty=true∧(∃ cs,Slot.b n cs∈sl)∧(∃ e0,s.getB n=some e0)∧im P n0 β σ2 S w n e∧∀ k∈AE e.cs,k<q+NH.length))
  | [],used,ls,h=>by
    intro cv j _ q u
    exact ⟨used,[],[],[],Enc.nil,trivial,fun p hp=>by simp at hp,rfl,fun n=>rfl,fun _ _ _ _ _ _ _=>⟨fun n tv h=>.inl h,fun n e h=>.inl h⟩⟩
  | .t n agg scs::r,used,ls,h=>by
    intro cv j hh q u
    simp only [GR] at h
    split at h
    case h_2=>cases h
    rename_i v ht
    split at h
    case h_2=>cases h
    case h_3=>cases h
    rename_i ls1 u1 hagg h1
    split at h
    case h_2=>cases h
    rename_i more h2
    cases h
    have hv:RelAV P n0 β σ s w (.val v) (a.tmps.getD n undef):=by
      rcases hs.T n _ ht with ⟨_,h3⟩ | ⟨h3,_⟩
      · exact h3
      · exact (h3 (fun n b hm=>by simp at hm)).elim
    have hv:RelVal P n0 β σ s w v (a.tmps.getD n undef):=hv
    obtain ⟨hlen,os1,fr1,a1,a2,a3,a4,a5⟩:=Pv hs.M h1 hv.1 _ _ hh.left q
    rw [bL]
    obtain ⟨u',NH,os2,fr2,b1,b2,b3,b4,b5,b6⟩:=Si hs h2 cv (j+scs.length) (by rw [← hlen];exact hh.right) (q+(AH E N cv j q scs).2.length)
      { u with tm:=FY u.tm n (some ⟨[],.val { agg,cs:=(AH E N cv j q scs).1 }⟩),hp:=(AH E N cv j q scs).2++u.hp }
    refine ⟨u',(AH E N cv j q scs).2++NH,os1++os2,fr1++fr2,a1.append b1,a2.append b2,fun p hp=>(List.mem_append.1 hp).elim (a3 p) (b3 p),by rw [b4,List.length_append,Nat.add_assoc],fun k=>?_,fun sf hsub hf σ2 S hst hw=>?_⟩
    · rw [b5,Sn a2.row b2.row]
      cases AG NH k with
      | some x=>rfl
      | none =>
        show AG ((AH E N cv j q scs).2++u.hp) k=_
        rw [F0]
        cases AG (AH E N cv j q scs).2 k<;>rfl
    · obtain ⟨c1,c2⟩:=b6 sf hsub hf.right σ2 S hst (hw.right a2.len)
      refine ⟨fun k tv hk=>?_,fun k e hk=>?_⟩
      · rcases c1 k tv hk with h3 | ⟨h3,h4,h5⟩
        · have h3:CM (FY u.tm n (some ⟨[],.val { agg,cs:=(AH E N cv j q scs).1 }⟩)) k=some tv:=h3
          rw [C1] at h3
          split at h3
          · rename_i hkn
            cases h3
            refine .inr ⟨rfl,?_,fun x hx=>?_⟩
            · rw [hkn.1]
              refine ⟨a5 sf hsub hf.left σ2 S hst (hw.left a2.len),?_⟩
              have hag:v.agg=agg:=by simpa using hagg
              have:=hv.2
              rw [hag] at this;exact this
            · have:=a4 x hx
              rw [List.length_append];omega
          · exact .inl h3
        · exact .inr ⟨h3,h4,fun x hx=>by have:=h5 x hx;rw [List.length_append];omega⟩
      · rcases c2 k e hk with h3 | ⟨h3,⟨cs,h4⟩,h5,h6,h7⟩
        · exact .inl h3
        · exact .inr ⟨h3,⟨cs,List.mem_cons_of_mem _ h4⟩,h5,h6,fun x hx=>by have:=h7 x hx;rw [List.length_append];omega⟩
  | .b n scs::r,used,ls,h=>by
    intro cv j hh q u
    simp only [GR] at h
    split at h
    case h_2=>cases h
    rename_i e0 he0
    split at h
    case h_2=>cases h
    rename_i ls1 u1 h1
    split at h
    case h_2=>cases h
    rename_i more h2
    cases h
    obtain ⟨blk,cells,el,hβ,hheap,hrel⟩:=hs.M.B n e0 he0
    obtain ⟨hlen,os1,fr1,a1,a2,a3,a4,a5⟩:=Pv hs.M h1 hrel _ _ hh.left q
    rw [RP]
    obtain ⟨u',NH,os2,fr2,b1,b2,b3,b4,b5,b6⟩:=Si hs h2 cv (j+scs.length) (by rw [← hlen];exact hh.right) (q+(AH E N cv j q scs).2.length)
      { u with bx:=Kj u.bx n (some { cs:=(AH E N cv j q scs).1,dirty:=true }),hp:=(AH E N cv j q scs).2++u.hp }
    refine ⟨u',(AH E N cv j q scs).2++NH,os1++os2,fr1++fr2,a1.append b1,a2.append b2,fun p hp=>(List.mem_append.1 hp).elim (a3 p) (b3 p),by rw [b4,List.length_append,Nat.add_assoc],fun k=>?_,fun sf hsub hf σ2 S hst hw=>?_⟩
    · rw [b5,Sn a2.row b2.row]
      cases AG NH k with
      | some x=>rfl
      | none =>
        show AG ((AH E N cv j q scs).2++u.hp) k=_
        rw [F0]
        cases AG (AH E N cv j q scs).2 k<;>rfl
    · obtain ⟨c1,c2⟩:=b6 sf hsub hf.right σ2 S hst (hw.right a2.len)
      refine ⟨fun k tv hk=>?_,fun k e hk=>?_⟩
      · rcases c1 k tv hk with h3 | ⟨h3,h4,h5⟩
        · exact .inl h3
        · exact .inr ⟨h3,h4,fun x hx=>by have:=h5 x hx;rw [List.length_append];omega⟩
      · rcases c2 k e hk with h3 | ⟨h3,⟨cs,h4⟩,h5,h6,h7⟩
        · have h3:AG (Kj u.bx n (some { cs:=(AH E N cv j q scs).1,dirty:=true })) k=some e:=h3
          rw [A3] at h3
          split at h3
          · rename_i hkn
            cases h3
            subst hkn
            exact .inr ⟨rfl,⟨scs,List.mem_cons_self⟩,⟨e0,he0⟩,⟨blk,cells,el,hβ,hheap,a5 sf hsub hf.left σ2 S hst (hw.left a2.len)⟩,fun x hx=>by have:=a4 x hx;rw [List.length_append];omega⟩
          · exact .inl h3
        · exact .inr ⟨h3,⟨cs,List.mem_cons_of_mem _ h4⟩,h5,h6,fun x hx=>by have:=h7 x hx;rw [List.length_append];omega⟩
structure Joined (P:Program) (n0:Nz) (nt L:Nat) (β:Nat→Option Nat) (σ:Nat→Option (Nat×Nat)) (s:St0 E N) (a:Act) (w:World) (base:St0 E N) (sl:List Slot) (S:St0 E N) (σ2:Nat→Option (Nat×Nat)):Prop where
 sim:Sim P n0 nt β σ2 S a w
 ext:Ext P (fun n=>L≤n) β σ s w β σ2 S w
 wf:WF S
 st:L≤S.st
 cleanB:∀ n e,S.getB n=some e→e.dirty=false→base.getB n=some e
 cleanH:∀ n e,S.getH n=some e→e.dirty=false→base.getH n=some e
 oldB:∀ n e,S.getB n=some e→base.getB n=some e∨∃ c,Slot.b n c∈sl
 oldH:∀ n h,n<L→S.getH n=some h→base.getH n=some h
theorem fG (hs : Sim P n0 nt β σ s a w) {base : St0 E N} {L : Nat}
    (hbT:∀ n tv,base.getT n=some tv→tv.gs=[]∧RelAV P n0 β σ s w tv.v (a.tmps.getD n undef)∧∀ k∈tv.v.names,k<L)
    (hbB:∀ n e,base.getB n=some e→n<L∧(∃ e',s.getB n=some e'∧e'.cs=e.cs)∧∀ k∈AE e.cs,k<L)
    (hbH:∀ n h,base.getH n=some h→n<L∧∃ h',s.getH n=some h'∧h'.e=h.e∧h'.l=h.l∧h'.nw=h.nw∧h'.frozen=h.frozen)
    {rs:List SlotC} {cs:List (AC0 E N)} {vals:List Value} (hcs:RelCs P n0 β σ s w cs vals) {sl:List Slot} (hsl:∀ b c,Slot.b b c∈sl→b<L) {ls1 ls2:List AY} {used:List Nat}
    (h1:IL (O:=std E N) s (base.hp.map (·.1)) [] rs cs=.ok (ls1,used)) (h2:GR (O:=std E N) s (base.hp.map (·.1)) used sl=.ok ls2) {cv:List PV} {j:Nat} (hcv:Holds cv j (ls1++ls2)) :
    ∃ (σ2:Nat→Option (Nat×Nat)) (S:St0 E N),S=BG (O:=std E N) cv (j+rs.length) (L+(AH E N cv j L rs).2.length) sl { base with hp:=(AH E N cv j L rs).2++base.hp } ∧
      RelCs P n0 β σ2 S w (AH E N cv j L rs).1 vals∧(∀ n∈AE (AH E N cv j L rs).1,n<S.st)∧Joined P n0 nt L β σ s a w base sl S σ2:=by
  obtain ⟨hlen,os1,fr1,a1,a2,a3,a4,a5⟩:=Pv hs.M h1 hcs _ _ hcv.left L
  obtain ⟨u',NH2,os2,fr2,b1,b2,b3,b4,b5,b6⟩:=Si hs h2 cv (j+rs.length) (by rw [← hlen];exact hcv.right) (L+(AH E N cv j L rs).2.length) { base with hp:=(AH E N cv j L rs).2++base.hp }
  generalize hS:BG (O:=std E N) cv (j+rs.length) (L+(AH E N cv j L rs).2.length) sl { base with hp:=(AH E N cv j L rs).2++base.hp }=S at *
  have enc:=a1.append b1
  have ents:=a2.append b2
  have hst:S.st=L+((AH E N cv j L rs).2++NH2).length:=by rw [b4,List.length_append,Nat.add_assoc]
  have row:=ents.row
  have gH:∀ n,S.getH n=match AG ((AH E N cv j L rs).2++NH2) n with | some h=>some h | none=>base.getH n:=fun n=>by
    rw [b5,Sn a2.row b2.row]
    cases AG NH2 n with
    | some x=>rfl
    | none =>
      show AG ((AH E N cv j L rs).2++base.hp) n=_
      rw [F0]
      cases AG (AH E N cv j L rs).2 n<;>rfl
  generalize hNH:(AH E N cv j L rs).2++NH2=NH at *
  generalize hos:os1++os2=os at *
  generalize hfr:fr1++fr2=fr at *
  let σ2:Nat→Option (Nat×Nat):=fun n=>if n<L then σ n else match os[n - L]? with
    | some (some i)=>σ i
    | _=>none
  let sf:=s.apply ({ hs:=fr }:Wr (std E N))
  have subf:Sub s sf:=enc.ok.sub rfl rfl
  have frz:Frz sf fr:=enc.ok.frz rfl
  have sfB:∀ n,sf.getB n=s.getB n:=fun n=>State.getB_apply0 s _ rfl n
  have sfH:∀ n,n∉fr.map (·.1)→sf.getH n=s.getH n:=fun n hn=>C0 hn
  have lt:∀ n h,AG NH n=some h→L≤n∧n<S.st:=fun n h hh=>by
    have:=row.mem _ (row.get hh)
    rw [hst];exact this
  have small:∀ n h,n<L→S.getH n=some h→base.getH n=some h:=fun n h hn hh=>by
    rw [gH] at hh
    cases e:AG NH n with
    | none=>rw [e] at hh;exact hh
    | some x=>have:=(lt n x e).1;omega
  have big:∀ n h,L≤n→S.getH n=some h→(n,h)∈NH:=fun n h hn hh=>by
    rw [gH] at hh
    cases e:AG NH n with
    | none=>rw [e] at hh;have:=(hbH n h hh).1;omega
    | some x=>rw [e] at hh;cases hh;exact row.get e
  have find:∀ n h,(n,h)∈NH→∃ i o,n=L+i∧os[i]?=some o∧bn P s h o∧h.frozen=false∧σ2 n=o.bind σ:=fun n h hm=>by
    obtain ⟨i,o,e1,e2,e3,e4⟩:=ents.find hm
    refine ⟨i,o,e1,e2,e3,e4,?_⟩
    have h1:¬ n<L:=by omega
    have h2:n - L=i:=by omega
    simp only [σ2,h1,if_false,h2,e2]
    cases o<;>rfl
  have sB:∀ n e,S.getB n=some e→n<L∧(∃ e0,s.getB n=some e0)∧(∀ k∈AE e.cs,k<S.st)∧(e.dirty=false→base.getB n=some e):=fun n e hn=>by
    have hw0:∃ σ2 S',(∀ nw b,StB n0 β σ sf nw b→StB n0 β σ2 S' nw b)∧Wired σ σ2 S' (L+(AH E N cv j L rs).2.length) os2 NH2:=by
      refine ⟨fun n=>match os2[n - (L+(AH E N cv j L rs).2.length)]? with | some (some i)=>σ i | _=>none,AR NH2,fun nw b hb=>⟨fun hm=>?_,hb.2⟩,RO (fun i o p h1 h2=>⟨?_,?_⟩)⟩
      · rcases hm with ⟨k,e,h1,_⟩ | ⟨k,h,cap,h1,h2,h3⟩
        · cases h1
        · obtain ⟨i,o,e1,e2,e3,e4⟩:=b2.find (b2.row.get h1)
          have:k - (L+(AH E N cv j L rs).2.length)=i:=by omega
          simp only [this,e2] at h3
          cases o with
          | none=>cases h3
          | some x =>
            obtain ⟨h0,q1,q2,q3,q4,q5⟩:=e3
            have hx:some x∈os:=by rw [← hos];exact List.mem_append_right _ (List.mem_of_getElem? e2)
            have hxf:x∉fr.map (·.1):=fun hm=>by
              obtain ⟨y,hy,e⟩:=List.mem_map.1 hm
              exact enc.ap y hy (e▸hx)
            exact hb.1 (.inr ⟨x,h0,cap,by rw [sfH x hxf];exact q1,q4,h3⟩)
      · have:L+(AH E N cv j L rs).2.length+i - (L+(AH E N cv j L rs).2.length)=i:=by omega
        simp only [this,h1]
        cases o<;>rfl
      · have:=b2.row.idx h2
        have hm:=List.mem_of_getElem? h2
        have:=b2.row.has (n:=p.1) (h:=p.2) hm
        rw [b2.row.idx h2] at this
        exact this
    obtain ⟨σ3,S3,hst3,hw3⟩:=hw0
    have hf2:Frz sf fr2:=by rw [← hfr] at frz;exact frz.right
    obtain ⟨_,c2⟩:=b6 sf subf hf2 σ3 S3 hst3 hw3
    rcases c2 n e hn with h | ⟨h3,⟨cs,h4⟩,h5,h6,h7⟩
    · obtain ⟨q1,⟨e',q2,q3⟩,q4⟩:=hbB n e h
      exact ⟨q1,⟨e',q2⟩,fun k hk=>by have:=q4 k hk;omega,fun _=>h⟩
    · refine ⟨hsl n cs h4,h5,fun k hk=>?_,fun hd=>by rw [h3] at hd;cases hd⟩
      have:=h7 k hk
      rw [← b4] at this;exact this
  have inMf:∀ b,InM β σ2 S b→InM β σ sf b:=fun b hb=>by
    rcases hb with ⟨n,e,h1,h2⟩ | ⟨n,h,cap,h1,h2,h3⟩
    · obtain ⟨_,⟨e0,h4⟩,_⟩:=sB n e h1
      exact .inl ⟨n,e0,by rw [sfB];exact h4,h2⟩
    · rcases Nat.lt_or_ge n L with hn | hn
      · have hb:=small n h hn h1
        obtain ⟨_,h',q1,q2,q3,q4,q5⟩:=hbH n h hb
        have hnf:n∉fr.map (·.1):=fun hm=>by
          obtain ⟨y,hy,e⟩:=List.mem_map.1 hm
          obtain ⟨h0,r1,r2⟩:=enc.fz y hy
          rw [e,q1] at r1;cases r1
          rcases r2 with r2 | r2
          · rw [q5,h2] at r2;cases r2
          · exact r2.2.2 (by rw [e];exact List.mem_map.2 ⟨(n,h),SZ hb,rfl⟩)
        have:σ2 n=σ n:=by simp only [σ2,hn,if_true]
        exact .inr ⟨n,h',cap,by rw [sfH n hnf];exact q1,by rw [q5];exact h2,by rw [← this];exact h3⟩
      · obtain ⟨i,o,e1,e2,e3,e4,e5⟩:=find n h (big n h hn h1)
        rw [e5] at h3
        cases o with
        | none=>cases h3
        | some x =>
          obtain ⟨h0,q1,q2,q3,q4,q5⟩:=e3
          have hx:some x∈os:=List.mem_of_getElem? e2
          have hxf:x∉fr.map (·.1):=fun hm=>by
            obtain ⟨y,hy,e⟩:=List.mem_map.1 hm
            exact enc.ap y hy (e▸hx)
          exact .inr ⟨x,h0,cap,by rw [sfH x hxf];exact q1,q4,h3⟩
  have stf:∀ nw b,StB n0 β σ sf nw b→StB n0 β σ2 S nw b:=fun nw b hb=>⟨fun hm=>hb.1 (inMf b hm),hb.2⟩
  have wired:Wired σ σ2 S L os NH:=RO (fun i o p h1 h2=>by
    have hidx:=row.idx h2
    have hm:=List.mem_of_getElem? h2
    refine ⟨?_,?_⟩
    · have h3:¬ L+i<L:=by omega
      have h4:L+i - L=i:=by omega
      simp only [σ2,h3,if_false,h4,h1]
      cases o<;>rfl
    · rw [gH]
      have:=row.has (n:=p.1) (h:=p.2) hm
      rw [hidx] at this
      rw [this])
  have hw1:Wired σ σ2 S L os1 (AH E N cv j L rs).2:=by rw [← hos,← hNH] at wired;exact wired.left a2.len
  have hw2:Wired σ σ2 S (L+(AH E N cv j L rs).2.length) os2 NH2:=by rw [← hos,← hNH] at wired;exact wired.right a2.len
  have hf1:Frz sf fr1:=by rw [← hfr] at frz;exact frz.left
  have hf2:Frz sf fr2:=by rw [← hfr] at frz;exact frz.right
  obtain ⟨c1,c2⟩:=b6 sf subf hf2 σ2 S stf hw2
  have x:Ext P (fun n=>L≤n) β σ s w β σ2 S w:=by
    refine ⟨rfl,rfl,rfl,Nat.le_refl _,fun _ _ _=>rfl,fun b hb=>.inl (subf.inM (inMf b hb)),fun b e he _=>⟨(sB b e he).2.1,rfl⟩,fun n h hh hn=>?_⟩
    have hn:n<L:=Nat.lt_of_not_le hn
    obtain ⟨_,h',q1,q2,q3,q4,q5⟩:=hbH n h (small n h hn hh)
    exact ⟨h',q1,by simp only [σ2,hn,if_true],q2.symm,by rw [q3]⟩
  have stS:∀ nw b,StB n0 β σ s nw b→StB n0 β σ2 S nw b:=fun nw b hb=>⟨fun hm=>hb.1 (subf.inM (inMf b hm)),hb.2⟩
  have mem:Mem P n0 β σ2 S w:=by
    refine ⟨fun n e he=>?_,fun n h hh=>?_,fun b b' e e' blk h h' hb hb'=>?_,fun n n' h h' blk cap cap' hh hh' h1 h2=>?_,fun b e n h blk cap he hh h1 h2=>?_⟩
    · rcases c2 n e he with h | ⟨_,_,_,h6,_⟩
      · obtain ⟨q1,⟨e',q2,q3⟩,q4⟩:=hbB n e h
        obtain ⟨blk,cells,el,r1,r2,r3⟩:=hs.M.B n e' q2
        rw [q3] at r3
        exact ⟨blk,cells,el,r1,r2,x.relCs (fun k hk hL=>by have:=q4 k hk;omega) r3⟩
      · exact h6
    · rcases Nat.lt_or_ge n L with hn | hn
      · obtain ⟨_,h',q1,q2,q3,q4,q5⟩:=hbH n h (small n h hn hh)
        exact (hs.M.H n h' q1).view q2.symm q3.symm (by simp only [σ2,hn,if_true]) (fun _ _ _ ho=>by rw [← q4];exact ho) (fun b hb=>by rw [← q4];exact stS _ b hb)
      · obtain ⟨i,o,e1,e2,e3,e4,e5⟩:=find n h (big n h hn hh)
        cases o with
        | none =>
          obtain ⟨r1,t,ts,r2,r3⟩:=e3
          exact ⟨t,ts,r2,r3,fun y hy=>(by rw [r1] at hy;simp at hy),.inl ⟨e5,r1⟩⟩
        | some y =>
          obtain ⟨h0,q1,q2,q3,q4,q5⟩:=e3
          exact (hs.M.H y h0 q1).view q2 q3 e5 (fun _ _ _ ho=>ho.mono q5) (fun b hb=>⟨(stS _ b hb).1,hb.2.mono q5⟩)
    · obtain ⟨_,⟨e0,r1⟩,_⟩:=sB b e h
      obtain ⟨_,⟨e1,r2⟩,_⟩:=sB b' e' h'
      exact hs.M.uB b b' e0 e1 blk r1 r2 hb hb'
    ·
      have src:∀ n h cap,S.getH n=some h→σ2 n=some (blk,cap)→∃ y h0,s.getH y=some h0∧σ y=some (blk,cap)∧((n<L∧y=n∧n∈base.hp.map (·.1))∨(L≤n∧os[n - L]?=some (some y))):=fun n h cap hh h1=>by
        rcases Nat.lt_or_ge n L with hn | hn
        · have hb:=small n h hn hh
          obtain ⟨_,h',q1,_⟩:=hbH n h hb
          simp only [σ2,hn,if_true] at h1
          exact ⟨n,h',q1,h1,.inl ⟨hn,rfl,List.mem_map.2 ⟨(n,h),SZ hb,rfl⟩⟩⟩
        · obtain ⟨i,o,e1,e2,e3,e4,e5⟩:=find n h (big n h hn hh)
          rw [e5] at h1
          cases o with
          | none=>cases h1
          | some y =>
            obtain ⟨h0,q1,_⟩:=e3
            have:n - L=i:=by omega
            exact ⟨y,h0,q1,h1,.inr ⟨hn,by rw [this];exact e2⟩⟩
      obtain ⟨y,h0,r1,r2,r3⟩:=src n h cap hh h1
      obtain ⟨y',h0',r1',r2',r3'⟩:=src n' h' cap' hh' h2
      have hy:=hs.M.uH y y' h0 h0' blk cap cap' r1 r1' r2 r2'
      subst hy
      rcases r3 with ⟨g1,g2,g3⟩ | ⟨g1,g2⟩<;>rcases r3' with ⟨k1,k2,k3⟩ | ⟨k1,k2⟩
      · omega
      · exact ((enc.src y (List.mem_of_getElem? k2)).2.2.1 (g2▸g3)).elim
      · exact ((enc.src y (List.mem_of_getElem? g2)).2.2.1 (k2▸k3)).elim
      · have:=Pq enc.nd g2 k2
        omega
    · obtain ⟨_,⟨e0,r1⟩,_⟩:=sB b e he
      rcases Nat.lt_or_ge n L with hn | hn
      · obtain ⟨_,h',q1,_⟩:=hbH n h (small n h hn hh)
        simp only [σ2,hn,if_true] at h2
        exact hs.M.uX b e0 n h' blk cap r1 q1 h1 h2
      · obtain ⟨i,o,e1,e2,e3,e4,e5⟩:=find n h (big n h hn hh)
        rw [e5] at h2
        cases o with
        | none=>cases h2
        | some y =>
          obtain ⟨h0,q1,_⟩:=e3
          exact hs.M.uX b e0 y h0 blk cap r1 q1 h1 h2
  have hLst:L≤S.st:=by rw [hst];omega
  refine ⟨σ2,S,rfl,a5 sf subf hf1 σ2 S stf hw1,fun n hn=>?_,⟨hs.n0le,hs.size,fun n tv hn=>?_,mem⟩,x,⟨fun n hn=>⟨⟨fun k e he=>?_,fun k h hh=>?_⟩,fun k tv hk=>?_⟩,fun n tv hn=>?_⟩,hLst,fun n e he hd=>(sB n e he).2.2.2 hd,fun n h hh hd=>?_,fun n e he=>?_,fun n h hn hh=>small n h hn hh⟩
  · have:=a4 n hn
    rw [hst,← hNH,List.length_append];omega
  · rcases c1 n tv hn with h | ⟨h3,h4,_⟩
    · obtain ⟨q1,q2,q3⟩:=hbT n tv h
      exact .inl ⟨fun n b hm=>by rw [q1] at hm;simp at hm,x.relAV (fun k hk hL=>by have:=q3 k hk;omega) q2⟩
    · exact .inl ⟨fun n b hm=>by rw [h3] at hm;simp at hm,h4⟩
  · obtain ⟨r1,_,r3,_⟩:=sB k e he
    exact ⟨by omega,fun hm=>by have:=r3 n hm;omega⟩
  · rcases Nat.lt_or_ge k L with hk | hk
    · omega
    · have:=row.mem _ (big k h hk hh)
      simp at this;omega
  · rcases c1 k tv hk with h | ⟨_,_,h5⟩
    · obtain ⟨_,_,q3⟩:=hbT k tv h
      intro hm;have:=q3 n hm;omega
    · intro hm;have:=h5 n hm;rw [← b4] at this;omega
  · rcases c1 n tv hn with h | ⟨h3,_⟩
    · exact (hbT n tv h).1
    · exact h3
  · rcases Nat.lt_or_ge n L with hn | hn
    · exact small n h hn hh
    · have hm:=big n h hn hh
      have:h.dirty=true:=by
        rw [← hNH] at hm
        exact (List.mem_append.1 hm).elim (a3 (n,h)) (b3 (n,h))
      rw [this] at hd;cases hd
  · rcases c2 n e he with h | ⟨_,h4,_⟩
    · exact .inl h
    · exact .inr h4
end
end Go.Px
end
