/- Part 5. -/
import Derived.Test.YtfelmmkjeicgoaaGreatDoorPart04
set_option linter.unusedVariables false
set_option linter.unusedSimpArgs false
section
namespace Go.Px
section
variable {E:Env} {N:Nat} {P:Program} {cfg:Cfg} {n0 n0':Nz} {nt:Nat} {β β':Nat→Option Nat} {σ σ':Nat→Option (Nat×Nat)} {s s':St0 E N} {a:Act} {w w':World}
theorem TX {o:Oper} (h:WD P o.op=true):0<Aw P o:=by
 unfold WD at h;unfold Aw;cases hop:o.op<;>rw [hop] at h<;>first | (exact Nat.one_pos) | (cases h;done) | skip
 rename_i c;simp only at h ⊢;cases hc:c.callee<;>rw [hc] at h<;>first | (exact Nat.one_pos) | cases h
theorem S8:∀ {gam:List CI} {f:Nat} {fns:List Nat} {ci:CI},LR gam f fns=some ci→ci∈gam∧ci.f=f∧ci.fns=fns
 | c::l,f,fns,ci,h=>by
  simp only [LR] at h
  split at h
  ·rename_i hb;cases h;simp only [Bool.and_eq_true] at hb;exact ⟨List.mem_cons_self,AA.1 hb.1,Dn.1 hb.2⟩
  ·obtain ⟨h1,h2⟩:=S8 h;exact ⟨List.mem_cons_of_mem _ h1,h2⟩
 | [],_,_,_,h=>by simp [LR] at h
theorem LC {ctx : List (Nat × Bool)} {g : Option Bool} {id : Nat} {d : Option Nat} {f : FuncId} {caps : List (Nat × Nat)} {args : List (AV (std E N))} {sr : StepRes (std E N)} {m m' : Nat}
    (h:RM.run s (Q0 (O:=std E N) P cfg ctx g id d f caps args) m=.ok (sr,m')) :
    (g=none∧sr=.inl f (args++caps.map fun (b,o)=>one (.ptr b o))) ∨
    (caps = [] ∧ ∃ fns ci fn ls fr u dm m2 m3, Dw args = some fns ∧ LR cfg.gam f fns = some ci ∧ P.funcs[f]? = some fn ∧ fn.body.isSome = true ∧ (fn.name == "runtime.NumGoroutine") = false ∧ DL P fn.params.toList args = true ∧
      RM.run s (FO (O:=std E N) ci.gives [] args) m2=.ok ((ls,fr,u),m3)∧PJ ci.gives u fr=true ∧
      sr=.call g f fns ls dm (Uq P ctx g id d ci fn fr u)):=by
  unfold Q0 at h;cases caps with
  | cons c0 cr=>cases g with
    | none=>exact .inl ⟨rfl,(RM.ret_ok h).symm⟩
    | some b=>exact (RM.fail_ok h).elim
  | nil=>cases g with
    | none =>
      simp only at h
      split at h
      · exact .inl ⟨rfl,(RM.ret_ok h).symm⟩
      · rename_i fns hfns
        split at h
        · exact .inl ⟨rfl,(RM.ret_ok h).symm⟩
        · rename_i ci hci
          split at h
          · exact (RM.fail_ok h).elim
          · rename_i fn hfn;obtain ⟨_,m1,h1,h2⟩:=RM.bind_ok h;obtain ⟨⟨ls,fr,u⟩,m2,h3,h4⟩:=RM.bind_ok h2;have hg:=RM.guard_ok h1;simp only [Bool.and_eq_true,Bool.not_eq_true'] at hg;simp only at h4
            split at h4
            · rename_i dm hdm hnone;have:=RM.ret_ok h4;exact .inr ⟨rfl,fns,ci,fn,ls,fr,u,dm,m1,m2,hfns,hci,hfn,hg.1.1,hg.1.2,hg.2,h3,hnone,this.symm⟩
            · exact (RM.fail_ok h4).elim
    | some b =>
      simp only at h
      split at h
      · exact (RM.fail_ok h).elim
      · rename_i fns hfns
        split at h
        · exact (RM.fail_ok h).elim
        · rename_i ci hci
          split at h
          · exact (RM.fail_ok h).elim
          · rename_i fn hfn;obtain ⟨_,m1,h1,h2⟩:=RM.bind_ok h;obtain ⟨⟨ls,fr,u⟩,m2,h3,h4⟩:=RM.bind_ok h2;have hg:=RM.guard_ok h1;simp only [Bool.and_eq_true,Bool.not_eq_true'] at hg;simp only at h4
            split at h4
            · rename_i dm hdm hnone;have:=RM.ret_ok h4;exact .inr ⟨rfl,fns,ci,fn,ls,fr,u,dm,m1,m2,hfns,hci,hfn,hg.1.1,hg.1.2,hg.2,h3,hnone,this.symm⟩
            · exact (RM.fail_ok h4).elim
theorem OP {ops : Array Oper} {o : Oper} {i id : Nat} {done : List Nat} {Q : Exit → Act → World → Prop} {K : Act → World → Prop} {as : List Bool} {wr : Wr (std E N)} {m m' : Nat}
    (hs:Sim P n0 nt β σ s a w) (gi:GI s done) (hg:∀ j want d,o.guard=some (j,want)→(ops[j]?).bind (·.dst)=some d→d∈done) (hdst:∀ d,o.dst=some d→d∉done∧d<nt)
    (hid:∀ n,id≤n→n<id+Aw P o→Fresh a s n) (ho:ops[i]?=some o) (h:RM.run s (GE P cfg ops.toList o id) m=.ok (.plain as wr,m')) (has:∀ b∈as,b=true)
    (hK:∀ a' w',After P n0 nt (fun n=>id≤n∧n<id+Aw P o) β σ s a w o.dst wr a' w'→GI (s.apply wr) (o.dst.toList++done)→K a' w'):wpOp P ops Q i K a w:=by
  unfold GE at h;obtain ⟨ctx,m1,h1,h2⟩:=RM.bind_ok h;obtain ⟨g,m2,h3,h4⟩:=RM.bind_ok h2;obtain ⟨c1,c2,c3⟩:=UM hs gi h1 hg;have hnew:∀ n,(id≤n∧n<id+Aw P o)→Fresh a s n:=fun n h=>hid n h.1 h.2
  have goW:∀ (hw:Region.wanted o (yielded ops a.tmps)=true),o.wp P a w K Q→wpOp P ops Q i K a w:=fun hw h=>by
    unfold wpOp;simp only [ho,hw,if_true];exact .inl h
  have goN:∀ (hw:¬ Region.wanted o (yielded ops a.tmps)=true),K (a.put o.dst undef) w→wpOp P ops Q i K a w:=fun hw h=>by
    unfold wpOp;simp only [ho,hw,if_false];exact h
  have hcases:=Jq h4;clear h4
  rcases hcases with ⟨sp,mm,hg0,hsp,h5⟩ | ⟨mm,h4⟩
  · have hctx:ctx=[]:=Dz (by rw [hg0] at h3;exact h3);subst hctx;have hf:Facts a []:=fun n b hm=>by simp at hm
    have hcnt:=R3 (P:=P) hsp;obtain ⟨as',wr',hr,hok⟩:=TS hs hf (hid id (Nat.le_refl _) (by omega)) hsp h5;cases hr;obtain ⟨z,β',σ',w',r1,r2,r3,r4,r5,r6⟩:=hok has;have hw:∀ n,n=id→id≤n∧n<id+Aw P o:=fun n h=>by omega
    refine goW (c1.2 hf) ?_;unfold Oper.wp;rw [r1];show K (a.put o.dst z) w'
    rcases r6 with ⟨d,c,hd,ht,hrel,hnm⟩ | ⟨hd,ht⟩
    · have hwr:wr={ ts:=[(d,some ⟨[],one c⟩)],bs:=[],hs:=wr.hs }:=by cases wr;simp only at ht r5;subst ht;subst r5;rfl
      have hdd:=hdst d hd;rw [hd] at hK ⊢;rw [hwr] at hK;exact hK _ _ (EV (bs:=[]) hs gi hdd.1 hdd.2 hnew c2 r2 (r3.weaken hw) (r4.weaken hw) (.inl ⟨hf,Ab hrel,fun n hn hnn=>by
        have:=hnm n hn (fun e=>hnn (hw n e));simpa [AV.names,one,AB] using this⟩)) (GI.put gi c2 rfl)
    · have hwr:wr={ ts:=[],bs:=[],hs:=wr.hs }:=by cases wr;simp only at ht r5;subst ht;subst r5;rfl
      rw [hd] at hK ⊢;rw [hwr] at hK;refine hK _ _ (MO hs hnew rfl r2 (r3.weaken hw) (r4.weaken hw)) ?_;intro n tv hn;rw [State.getT_apply0 s _ rfl] at hn;exact gi n tv hn
  unfold PO at h4
  split at h4
  ·
    rename_i T x y hop
    split at h4
    · exact (RM.fail_ok h4).elim
    · have hctx:ctx=[]:=Dz h3;subst hctx;have hf:Facts a []:=fun n b hm=>by simp at hm
      obtain ⟨p,m3,h5,h6⟩:=RM.bind_ok h4;obtain ⟨v,m4,h7,h8⟩:=RM.bind_ok h6;obtain ⟨wr',m5,h9,h10⟩:=RM.bind_ok h8
      split at h10
      · rename_i hd;have hr:=RM.ret_ok h10;simp only [StepRes.plain.injEq] at hr;obtain ⟨rfl,rfl⟩:=hr;obtain ⟨hp,_,_⟩:=Bz hs hf h5;obtain ⟨hv,hvn⟩:=FC hs hf h7;obtain ⟨w',r1,r2,r3,r4,r5⟩:=Wi (a:=a) hs.n0le hs.M hp hv.1 hvn h9;refine goW (c1.2 hf) ?_;unfold Oper.wp;have:(execOp a.eval o).run P w=.ok .skip w':=by simp [execOp,hop,r1]
        rw [this];show K (a.put o.dst undef) w';rw [hd];refine hK _ _ ?_ ?_
        · rw [hd];exact MO hs hnew r5 r2 (r3.weaken (fun n h=>h.elim)) (r4.weaken (fun n h=>h.elim))
        · rw [hd];intro n tv hn;rw [State.getT_apply0 s _ r5] at hn;exact gi n tv hn
      · exact (RM.fail_ok h10).elim
  ·
    obtain ⟨f,m3,h5,h6⟩:=RM.bind_ok h4
    split at h6
    · split at h6
      · exact (RM.fail_ok h6).elim
      · obtain ⟨_,m40,h60,h61⟩:=RM.bind_ok h6;obtain ⟨args,m4,h7,h8⟩:=RM.bind_ok h61
        rcases LC h8 with ⟨_,h9⟩ | ⟨_,fns,ci,fn,ls,fr,u,dm,m2,m3,_,_,_,_,_,_,_,_,h9⟩<;>cases h9
    · exact (RM.fail_ok h6).elim
  ·
    rename_i hmem _ _
    split at h4
    · rename_i d hd;have hctx:ctx=[]:=Dz h3;subst hctx;have hf:Facts a []:=fun n b hm=>by simp at hm
      obtain ⟨⟨as',c,wr'⟩,m3,h5,h6⟩:=RM.bind_ok h4;have hr:=RM.ret_ok h6;simp only [StepRes.plain.injEq] at hr;obtain ⟨rfl,rfl⟩:=hr;have hpos:=TX hmem;obtain ⟨z,β',σ',w',r1,r2,r3,r4,r5,r6,r7⟩:=YR hs hf (hid id (Nat.le_refl _) (by omega)) h5 has;have hwr:wr'={ bs:=wr'.bs,hs:=wr'.hs }:=by cases wr';simp only at r7;subst r7;rfl
      refine goW (c1.2 hf) ?_;unfold Oper.wp;rw [r1];show K (a.put o.dst z) w';rw [hd];have hdd:=hdst d hd;refine hK _ _ ?_ ?_
      · rw [hd];rw [hwr] at r2 r3 r4 r5;exact EV hs gi hdd.1 hdd.2 hnew c2 r2 (r3.weaken (fun n h=>by subst h;omega)) (r4.weaken (fun n h=>by subst h;omega)) (.inl ⟨hf,Ab r5,fun n hn hnn=>by
          have:=r6 n hn (fun e=>hnn (by subst e;omega));simpa [AV.names,one,AB] using this⟩)
      · rw [hd];exact GI.put gi c2 rfl
    · rename_i d hd;obtain ⟨c,m3,h5,h6⟩:=RM.bind_ok h4;have hr:=RM.ret_ok h6;simp only [StepRes.plain.injEq] at hr;obtain ⟨rfl,rfl⟩:=hr;have hpos:=TX hmem;have hdd:=hdst d hd
      by_cases hw:Region.wanted o (yielded ops a.tmps)=true
      · have hf:=c1.1 hw;obtain ⟨z,β',σ',w',r1,r2,r3,r4,r5,r6,r7⟩:=Xu hs hf (hid id (Nat.le_refl _) (by omega)) h5;refine goW hw ?_;unfold Oper.wp;rw [r1];show K (a.put o.dst z) w';rw [hd];refine hK _ _ ?_ ?_
        · rw [hd];exact EV (bs:=[]) (hh:=[]) hs gi hdd.1 hdd.2 hnew c2 r2 (r3.weaken (fun n h=>by subst h;omega)) (r4.weaken (fun n h=>by subst h;omega)) (.inl ⟨hf,Ab r5,fun n hn hnn=>by
            have:=r6 n hn (fun e=>hnn (by subst e;omega));simpa [AV.names,one,AB] using this⟩)
        · rw [hd];exact GI.put gi c2 rfl
      · refine goN hw ?_;rw [hd];have sub:Sub s (s.apply ({}:Wr (std E N))):=Sub.of_same (fun n=>State.getB_apply0 s _ rfl n) (fun n=>State.getH_apply0 s _ rfl n);refine hK _ _ ?_ ?_
        · rw [hd];exact EV (bs:=[]) (hh:=[]) hs gi hdd.1 hdd.2 hnew c2 (sub.mem hs.M) (sub.ext P _ β σ w) (Tidy.of_sub (fr:=[]) (fun _ _ h=>by simp at h) rfl rfl rfl _) (.inr ⟨fun h=>hw (c1.2 h),rfl⟩)
        · rw [hd];exact GI.put gi c2 rfl
    · exact (RM.fail_ok h4).elim
  ·
    split at h4
    · rename_i d hd;obtain ⟨⟨as',v,fr⟩,m3,h5,h6⟩:=RM.bind_ok h4;obtain ⟨fr',m4,h7,h8⟩:=RM.bind_ok h6;have hr:=RM.ret_ok h8;simp only [StepRes.plain.injEq] at hr;obtain ⟨rfl,rfl⟩:=hr;obtain ⟨f1,f2⟩:=QB h7;have hdd:=hdst d hd;have sub:=f1.sub (wr:={ bs:=[],hs:=fr' }) rfl rfl
      by_cases hw:Region.wanted o (yielded ops a.tmps)=true
      · have hf:=c1.1 hw;refine goW hw ?_;have hgt:∀ b,g=some b→b=true:=OA hs hf h3;obtain ⟨z,r1,r2,r3,r4⟩:=Xk hs hf h5 (fun b hb=>by
          have:=has (Sm g b) (List.mem_map.2 ⟨b,hb,rfl⟩);unfold Sm at this;cases g with
          | none=>exact this
          | some g=>have:=hgt g rfl;subst this;simpa using this)
        have:=f2 r4;subst this;unfold Oper.wp;rw [r1];show K (a.put o.dst z) w;rw [hd];refine hK _ _ ?_ ?_
        · rw [hd];exact EV (bs:=[]) hs gi hdd.1 hdd.2 hnew c2 (sub.mem hs.M) (sub.ext P _ β σ w) (Tidy.of_sub f1.pre rfl rfl rfl _) (.inl ⟨hf,r2,fun n hn _=>r3 n hn⟩)
        · rw [hd];exact GI.put gi c2 rfl
      · refine goN hw ?_;rw [hd];refine hK _ _ ?_ ?_
        · rw [hd];exact EV (bs:=[]) hs gi hdd.1 hdd.2 hnew c2 (sub.mem hs.M) (sub.ext P _ β σ w) (Tidy.of_sub f1.pre rfl rfl rfl _) (.inr ⟨fun h=>hw (c1.2 h),rfl⟩)
        · rw [hd];exact GI.put gi c2 rfl
    · exact (RM.fail_ok h4).elim
end
end Go.Px
end
section
namespace Go.Px
section
variable {E:Env} {N:Nat} {P:Program} {cfg:Cfg} {n0 n0':Nz} {nt:Nat} {β β':Nat→Option Nat} {σ σ':Nat→Option (Nat×Nat)} {s s':St0 E N} {a:Act} {w w':World}
theorem Qi (hs : Sim P n0 nt β σ s a w) {ctx : List (Nat × Bool)} (hf : Facts a ctx) : ∀ {ts : List TypeId} {xs : List Operand} {vs : List (AV (std E N))} {m m' : Nat}, RM.run s (R1 (O := std E N) P ctx ts xs) m = .ok (vs, m') →
    RelArgs P n0 β σ s w vs (xs.map a.eval)
  | [],[],vs,m,m',h=>by cases RM.ret_ok h;trivial
  | t::ts,x::xs,vs,m,m',h=>by
    obtain ⟨v,m1,h1,h2⟩:=RM.bind_ok h;obtain ⟨r,m2,h3,h4⟩:=RM.bind_ok h2;cases RM.ret_ok h4;exact ⟨(Kk hs hf h1).1,Qi hs hf h3⟩
  | [],_::_,_,_,_,h=>(RM.fail_ok h).elim
  | _::_,[],_,_,_,h=>(RM.fail_ok h).elim
theorem Yx {c:AC0 E N} {l:AR} {fr:List (Nat×Option (HEnt (std E N)))} {nw:Bool} {k k':Nat} (h:RM.run s (SW (O:=std E N) c) k=.ok ((l,fr,nw),k')):FrOK s fr:=by
 have nil:FrOK s ([]:List (Nat×Option (HEnt (std E N)))):=fun _ _ hm=>by simp at hm
 cases c with
 | own e id =>
  obtain ⟨k1,h⟩:=RM.h_ok h;cases hh:s.getH id with
  | none=>rw [hh] at h;exact (RM.fail_ok h).elim
  | some en =>
   rw [hh] at h;cases RM.ret_ok h;intro n v hm;simp only [List.mem_singleton,Prod.mk.injEq] at hm;obtain ⟨rfl,rfl⟩:=hm;exact ⟨en,hh,rfl⟩
 | int _ _=>cases RM.ret_ok h;exact nil
 | bool _=>cases RM.ret_ok h;exact nil
 | str _=>cases RM.ret_ok h;exact nil
 | nil _=>cases RM.ret_ok h;exact nil
 | imm _ _ _=>cases RM.ret_ok h;exact nil
 | _=>exact (RM.fail_ok h).elim
theorem Uw:∀ {cs:List (AC0 E N)} {ls:List AR} {fr:List (Nat×Option (HEnt (std E N)))} {nw:Bool} {k k':Nat},RM.run s (Gh (O:=std E N) cs) k=.ok ((ls,fr,nw),k')→FrOK s fr
 | [],ls,fr,nw,k,k',h=>by cases RM.ret_ok h;exact fun _ _ hm=>by simp at hm
 | c::cs,ls,fr,nw,k,k',h=>by
  obtain ⟨⟨l,f1,n1⟩,k1,h1,h2⟩:=RM.bind_ok h;obtain ⟨⟨ls2,f2,n2⟩,k2,h3,h4⟩:=RM.bind_ok h2;cases RM.ret_ok h4;exact (Yx h1).append (Uw h3)
theorem MY:∀ {args:List (AV (std E N))} {gives:List Bool} {used u:List Nat} {ls:List AR} {fr:List (Nat×Option (HEnt (std E N)))} {k k':Nat},RM.run s (FO (O:=std E N) gives used args) k=.ok ((ls,fr,u),k')→FrOK s fr
 | [],gives,used,u,ls,fr,k,k',h=>by cases RM.ret_ok h;exact fun _ _ hm=>by simp at hm
 | .tup y::args,gives,used,u,ls,fr,k,k',h=>by
  unfold FO at h;exact (RM.fail_ok h).elim
 | .val y::args,gives,used,u,ls,fr,k,k',h=>by
  cases hy:fnV y with
  | some f =>
   have:=Uy hy;subst this;exact MY (gives:=gives.tail) h
  | none =>
   rw [Tb hy] at h
   split at h
   ·obtain ⟨⟨ls1,u1⟩,k1,h1,h2⟩:=RM.bind_ok h;obtain ⟨⟨ls2,fr2,u2⟩,k2,h3,h4⟩:=RM.bind_ok h2;cases RM.ret_ok h4;exact MY h3
   ·obtain ⟨⟨ls1,f1,nw1⟩,k1,h1,h2⟩:=RM.bind_ok h;obtain ⟨⟨ls2,fr2,u2⟩,k2,h3,h4⟩:=RM.bind_ok h2;cases RM.ret_ok h4;exact (Uw h1).append (MY h3)
theorem Kd {nw:Bool} {c:List PV}:∀ {ts:List TypeId} {j q:Nat} {cs:List (AC0 E N)} {hs:List (Nat×HEnt (std E N))},AU (O:=std E N) P (fun _=>false) nw c j q ts=some (cs,hs)→hs=[]
 | [],j,q,cs,hs,h=>by simp only [AU] at h;cases h;rfl
 | t::ts,j,q,cs,hs,h=>by
  simp only [AU] at h
  split at h<;>first
   | (obtain ⟨⟨r,hh⟩,h1,h2⟩:=Option.map_eq_some_iff.1 h;cases h2;exact Kd h1)
   | cases h
theorem MB {nw:Bool} {c:List PV}:∀ {ts:List TypeId} {j q:Nat} {vs:List (Val (std E N))} {hs:List (Nat×HEnt (std E N))},Ah (O:=std E N) P (fun _=>false) nw c j q ts=some (vs,hs)→hs=[]
 | [],j,q,vs,hs,h=>by simp only [Ah] at h;cases h;rfl
 | t::ts,j,q,vs,hs,h=>by
  simp only [Ah] at h
  split at h
  ·cases h
  ·split at h
   ·cases h
   ·rename_i cs h1 hc
    split at h
    ·cases h
    ·rename_i vs2 h2 hv;cases h;rw [Kd hc,MB hv];rfl
def WM {α:Type} (g:Option α) (b:Bool):Bool:=match g with
 | none=>b
 | some _=>false
theorem Ys {α:Type} (g:Option α) (ci:CI):YZ g ci.ow=CI.ow { ci with own:=WM g ci.own }:=by cases g<;>rfl
theorem Ve {ci:CI} (h:A9 P E N ci∧A9 P E N { ci with own:=false }) (g:Option Bool):A9 P E N { ci with own:=WM g ci.own }:=by
 cases g with
 | none=>exact h.1
 | some b=>exact h.2
theorem Xc {q len:Nat} {nw:Bool} {c:AC0 E N} (h:OkC q len nw c):∀ n∈c.names,q≤n∧n<q+len:=by
 intro n hn;cases c with
 | own e k=>simp only [AC.names,List.mem_singleton] at hn;subst hn;exact h
 | int _ _=>simp [AC.names] at hn
 | bool _=>simp [AC.names] at hn
 | str _=>simp [AC.names] at hn
 | imm _ _ _=>simp [AC.names] at hn
 | _=>exact h.elim
theorem IC:∀ {vs:List (Val (std E N))} {n:Nat},n∈A4 vs→∃ v∈vs,n∈AB v.cs
 | v::vs,n,h=>by
  simp only [A4,List.mem_append] at h
  rcases h with h | h
  ·exact ⟨v,List.mem_cons_self,h⟩
  ·obtain ⟨u,hu,hn⟩:=IC h;exact ⟨u,List.mem_cons_of_mem _ hu,hn⟩
theorem WB {q len:Nat} {nw:Bool} {vs:List (Val (std E N))} (h:∀ v∈vs,∀ x∈v.cs,OkC q len nw x):∀ n∈(EZ vs).names,q≤n∧n<q+len:=by
 intro n hn;have:∃ v∈vs,n∈AB v.cs:=by
  match vs,hn with
  | [x],hn=>exact ⟨x,List.mem_cons_self,hn⟩
  | [],hn=>exact IC hn
  | x::y::r,hn=>exact IC hn
 obtain ⟨v,hv,hm⟩:=this;obtain ⟨c,hc,hm⟩:=Al.1 hm;exact Xc (h v hv c hc) n hm
theorem Py {ops : Array Oper} {o : Oper} {i id : Nat} {done : List Nat} {Q : Exit → Act → World → Prop} {K : Act → World → Prop} {g : Option Bool} {f : FuncId} {fns : List Nat} {ls dm : List AR} {next : List PV → Option (Wr (std E N))} {wr : Wr (std E N)} {m m' : Nat}
    (hΓ:∀ ci∈cfg.gam,A9 P E N ci∧A9 P E N { ci with own:=false })
    (hs:Sim P n0 nt β σ s a w) (gi:GI s done) (hg:∀ j want d,o.guard=some (j,want)→(ops[j]?).bind (·.dst)=some d→d∈done) (hdst:∀ d,o.dst=some d→d∉done∧d<nt)
    (hid:∀ n,id≤n→n<id+Aw P o→Fresh a s n) (ho:ops[i]?=some o) (h:RM.run s (GE P cfg ops.toList o id) m=.ok (.call g f fns ls dm next,m'))
    {c:List PV} (hm:(match g with | none=>E f fns (ls.map Leaf.pv) | some b=>if b then E f fns (ls.map Leaf.pv) else some (dm.map Leaf.pv))=some c) (hn:next c=some wr)
    (hK:∀ a' w',After P n0 nt (fun n=>id≤n∧n<id+Aw P o) β σ s a w o.dst wr a' w'→GI (s.apply wr) (o.dst.toList++done)→K a' w'):wpOp P ops Q i K a w:=by
  unfold GE at h;obtain ⟨ctx,m1,h1,h2⟩:=RM.bind_ok h;obtain ⟨g',m2,h3,h4⟩:=RM.bind_ok h2;obtain ⟨c1,c2,c3⟩:=UM hs gi h1 hg;have hnew:∀ n,(id≤n∧n<id+Aw P o)→Fresh a s n:=fun n h=>hid n h.1 h.2
  have hcases:=Jq h4;clear h4
  rcases hcases with ⟨sp,mm,hg0,hsp,h5⟩ | ⟨mm,h4⟩
  · have hctx:ctx=[]:=Dz (by rw [hg0] at h3;exact h3);subst hctx;have hcnt:=R3 (P:=P) hsp;obtain ⟨as',wr',hr,hok⟩:=TS hs (fun n b hm=>by simp at hm) (hid id (Nat.le_refl _) (by omega)) hsp h5;cases hr
  unfold PO at h4
  split at h4
  · split at h4
    · exact (RM.fail_ok h4).elim
    · obtain ⟨p,m3,h5,h6⟩:=RM.bind_ok h4;obtain ⟨v,m4,h7,h8⟩:=RM.bind_ok h6;obtain ⟨wr',m5,h9,h10⟩:=RM.bind_ok h8
      split at h10
      · cases RM.ret_ok h10
      · exact (RM.fail_ok h10).elim
  · rename_i fop args tys hop;obtain ⟨fv,m3,h5,h6⟩:=RM.bind_ok h4
    split at h6
    case h_2=>exact (RM.fail_ok h6).elim
    rename_i f' caps
    split at h6
    case h_1=>exact (RM.fail_ok h6).elim
    rename_i fn0 hfn0;obtain ⟨_,m40,h60,h61⟩:=RM.bind_ok h6;obtain ⟨avs,m4,h7,h8⟩:=RM.bind_ok h61
    rcases LC h8 with ⟨_,h9⟩ | ⟨hcaps,fns',ci,fn,ls',fr,u,dm',m2,m3,q1,q2,q3,q4,q5,q6,q7,q8,h9⟩
    · cases h9
    · cases h9;subst hcaps;obtain ⟨ciM,ciF,ciN⟩:=S8 q2;have hcnt:Aw P o=16:=by unfold Aw;rw [hop]
      have hfr:=MY q7;unfold Uq at hn
      split at hn
      · cases hn
      · rename_i vs nh hb
        split at hn
        case h_2=>cases hn
        rename_i hle;have hle:=Nat.le_of_ble_eq_true hle;cases hn;obtain ⟨row1,okh,okc⟩:=Jx hb;generalize hHS:(match ci.nw with | true=>[] | false=>fr)++(u.map (fun n=>(n,none))++nh.map fun (n,h)=>(n,some h))=HS at hK;have hnames:∀ n,¬ (id≤n∧n<id+Aw P o)→n∉(EZ vs).names:=fun n hn hm=>hn (by
          have:=WB okc n hm;omega)
        have fin : ∀ (z : Value) (w' : World) (β' : Nat → Option Nat) (σ' : Nat → Option (Nat × Nat)), Mem P n0 β' σ' (s.apply { bs := [], hs := HS }) w' → Ext P (fun n => id ≤ n ∧ n < id + Aw P o) β σ s w β' σ' (s.apply { bs := [], hs := HS }) w' →
            Tidy a (fun n=>id≤n∧n<id+Aw P o) s (s.apply { bs:=[],hs:=HS }) →
            ((Facts a ctx∧RelAV P n0 β' σ' (s.apply { bs:=[],hs:=HS }) w' (EZ vs) z)∨(¬ Facts a ctx∧z=undef))→K (a.put o.dst z) w':=fun z w' β' σ' hm hx ht hz=>by
          cases hd:o.dst with
          | some d =>
            rw [hd] at hK;have hdd:=hdst d hd;exact hK _ _ (EV (bs:=[]) hs gi hdd.1 hdd.2 hnew c2 hm hx ht (hz.imp (fun h=>⟨h.1,h.2,fun n _ hn=>hnames n hn⟩) (fun h=>h))) (GI.put gi c2 rfl)
          | none =>
            rw [hd] at hK;refine hK _ _ (MO hs hnew rfl hm hx ht) ?_;intro n tv hn;rw [State.getT_apply0 s _ rfl] at hn;exact gi n tv hn
        by_cases hw:Region.wanted o (yielded ops a.tmps)=true
        · have hf:=c1.1 hw;have hgt:∀ b,g=some b→b=true:=OA hs hf h3;have hE:E f fns (ls.map Leaf.pv)=some c:=by
            cases g with
            | none=>exact hm
            | some b=>have:=hgt b rfl;subst this;simpa using hm
          have hfv:=(Kk hs hf h5).1;have hargs:=Qi hs hf h7;have hval:A9 P E N { ci with own:=WM g ci.own }:=Ve (hΓ ci ciM) g;have hev:a.eval fop=.func (.func f) #[] #[]:=by
            obtain ⟨hr1,hr2⟩:=hfv;have hr2:(a.eval fop).oneCell'=true:=hr2;rw [Ad hr2] at hr1;obtain ⟨vs2,e1,e2,_⟩:=hr1.1;have:vs2=[]:=List.length_eq_zero_iff.1 (by simpa using e2);subst this;exact e1
          have hnb:fn.body.isNone=false:=by cases hb:fn.body<;>simp_all
          have hex:(execOp a.eval o).run P w=.ok (.enter f (args.map a.eval)) w:=by
            simp only [beq_eq_false_iff_ne,ne_eq] at q5;simp [execOp,hop,resolve,Deferred.ofValue,hev,invoke,callFunc,q3,q5,hnb];intro hbn;rw [hbn] at q4;cases q4
          rw [Ys g ci] at hb;have hcall:=ZH (a:=a) hs.n0le hs.M hs.kept hval (fn:=fn) (by rw [← ciF] at q3;exact q3) hargs q6 (by rw [← ciN] at q1;exact q1) q7 q8 (rs:=c) (by show E ci.f ci.fns _=_;rw [ciF,ciN];exact hE) (id:=id) hb
            (fun n h1 h2=>hid n h1 (by omega)) (wr:={ bs:=[],hs:=HS }) rfl rfl hHS.symm
          unfold wpOp;simp only [ho,hw,if_true];refine .inl ?_;unfold Oper.wp;rw [hex];have harr:(args.toList.map a.eval).toArray=args.map a.eval:=by apply Array.ext';simp
          rw [harr] at hcall;rw [show ({ ci with own:=WM g ci.own }:CI).f=f from ciF] at hcall;refine Calls.mono hcall (fun e w' hp=>?_);cases e with
          | panicked ch=>exact hp.elim
          | outgrown=>exact hp.elim
          | returned v =>
            obtain ⟨σ',r1,r2,r3,r4⟩:=hp;exact fin v w' β σ' r1 (r2.weaken (fun n h=>⟨h.1,by omega⟩)) (r3.weaken (fun n h=>⟨h.1,by omega⟩)) (.inl ⟨hf,r4⟩)
        · have hgs : ∃ b, g = some b := by
            cases g with
            | none=>exact (hw (c1.2 (by rw [Dz h3];intro n b hm;simp at hm))).elim
            | some b=>exact ⟨b,rfl⟩
          obtain ⟨b,hgb⟩:=hgs;have hnh:nh=[]:=by rw [hgb] at hb;exact MB hb
          have hpre:PreOK s HS:=by
            rw [← hHS,hnh];intro n v hm
            rcases List.mem_append.1 hm with hm | hm
            · split at hm
              · simp at hm
              · exact .inr (hfr n v hm)
            · rcases List.mem_append.1 hm with hm | hm
              · obtain ⟨k,_,e⟩:=List.mem_map.1 hm;cases e;exact .inl rfl
              · simp at hm
          have sub:=hpre.sub (wr:={ bs:=[],hs:=HS }) rfl rfl;unfold wpOp;simp only [ho,hw,if_false];exact fin undef w β σ (sub.mem hs.M) (sub.ext P _ β σ w) (Tidy.of_sub hpre rfl rfl rfl _) (.inr ⟨fun h=>hw (c1.2 h),rfl⟩)
  · split at h4
    · obtain ⟨⟨as',c',wr'⟩,m3,h5,h6⟩:=RM.bind_ok h4;cases RM.ret_ok h6
    · obtain ⟨c',m3,h5,h6⟩:=RM.bind_ok h4;cases RM.ret_ok h6
    · exact (RM.fail_ok h4).elim
  · split at h4
    · obtain ⟨⟨as',v,fr⟩,m3,h5,h6⟩:=RM.bind_ok h4;obtain ⟨fr',m4,h7,h8⟩:=RM.bind_ok h6;cases RM.ret_ok h8
    · exact (RM.fail_ok h4).elim
end
end Go.Px
end
section
namespace Go.Px
section
variable {E:Env} {N:Nat} {P:Program} {cfg:Cfg} {n0 n0':Nz} {nt:Nat} {β β':Nat→Option Nat} {σ σ':Nat→Option (Nat×Nat)} {s s':St0 E N} {a:Act} {w w':World}
structure Post (P : Program) (n0 : Nz) (nt L : Nat) (D : Nat → Prop) (β : Nat → Option Nat) (σ : Nat → Option (Nat × Nat)) (s : St0 E N) (a : Act) (w : World)
    (β':Nat→Option Nat) (σ':Nat→Option (Nat×Nat)) (s':St0 E N) (a':Act) (w':World):Prop where
  sim:Sim P n0 nt β' σ' s' a' w'
  ext:Ext P (fun n=>L≤n) β σ s w β' σ' s' w'
  cleanB:∀ n e,s'.getB n=some e→e.dirty=false→s.getB n=some e
  cleanH:∀ n e,s'.getH n=some e→e.dirty=false→s.getH n=some e
  defers:a'.defers=a.defers
  tmps:∀ n,¬ D n→a'.tmps.getD n undef=a.tmps.getD n undef
theorem Post.trans {L L' : Nat} {D D' : Nat → Prop} {β'' : Nat → Option Nat} {σ'' : Nat → Option (Nat × Nat)} {s'' : St0 E N} {a' a'' : Act} {w'' : World} (h : Post P n0 nt L D β σ s a w β' σ' s' a' w') (k : Post P n0 nt L' D' β' σ' s' a' w' β'' σ'' s'' a'' w'') (hl : L ≤ L') :
    Post P n0 nt L (fun n=>D n∨D' n) β σ s a w β'' σ'' s'' a'' w'' :=
  ⟨k.sim,(h.ext.trans k.ext).weaken (fun n hn=>hn.elim (fun h=>h) (fun h=>Nat.le_trans hl h)),fun n e h1 h2=>h.cleanB n e (k.cleanB n e h1 h2) h2,fun n e h1 h2=>h.cleanH n e (k.cleanH n e h1 h2) h2,
    k.defers.trans h.defers,fun n hn=>(k.tmps n (fun h=>hn (.inr h))).trans (h.tmps n (fun h=>hn (.inl h)))⟩
theorem JA:∀ {as:List Bool} {m:Option (List PV)} {r:List PV},J4 (O:=std E N) as m=some r→(∀ b∈as,b=true)∧m=some r
 | [],m,r,h=>⟨fun b hb=>by simp at hb,h⟩
 | b::as,m,r,h=>by
  have h':(cond b (J4 (O:=std E N) as m) none)=some r:=h;cases b with
  | false=>simp at h'
  | true =>
   obtain ⟨h1,h2⟩:=JA (as:=as) (by simpa using h');exact ⟨fun b hb=>(List.mem_cons.1 hb).elim (fun e=>e) (h1 b),h2⟩
def E8 (s:St0 E N) (n:Nat):Prop:=(∀ k e,s.getB k=some e→n≠k∧n∉AB e.cs)∧∀ k e,s.getH k=some e→n≠k
abbrev Inl (E:Env) (N:Nat):=FuncId→List (AV (std E N))→St0 E N→(AV (std E N)→St0 E N→Option (List PV))→Option (List PV)
def T0 (P:Program) (inl:Inl E N):Prop :=
  ∀ f (args:List (AV (std E N))) (s:St0 E N) k r,inl f args s k=some r→∀ (n0:Nz) β σ (w:World) (vals:List Value),n0.n≤w.heap.size→Mem P n0 β σ s w→Kept P β σ s w →
    (∀ n,s.st≤n→E8 s n)→(∀ x∈args,∀ n∈x.names,n<s.st)→RelArgs P n0 β σ s w args vals →
    Calls P f vals.toArray w fun
      | .returned v, w' => ∃ (av : AV (std E N)) (s' : St0 E N) (β' : Nat → Option Nat) (σ' : Nat → Option (Nat × Nat)), k av s' = some r ∧ s'.tm = s.tm ∧ s.st ≤ s'.st ∧ Mem P n0 β' σ' s' w' ∧ Ext P (fun n => s.st ≤ n) β σ s w β' σ' s' w' ∧
          (∀ n e,s'.getB n=some e→e.dirty=false→s.getB n=some e)∧(∀ n e,s'.getH n=some e→e.dirty=false→s.getH n=some e) ∧
          RelAV P n0 β' σ' s' w' av v∧∀ n,s'.st≤n→E8 s' n∧n∉av.names
      | _,_=>False
theorem After.post {id : Nat} {dst : Option Nat} {wr : Wr (std E N)} {a' : Act} {n : Nat} (h : After P n0 nt (fun k => id ≤ k ∧ k < id + n) β σ s a w dst wr a' w') :
    ∃ β' σ',Post P n0 nt id (fun k=>dst=some k) β σ s a w β' σ' (s.apply wr) a' w'∧(∀ k,(∀ j,id≤j→Fresh a s j)→id+n≤k→Fresh a' (s.apply wr) k):=by
  obtain ⟨β',σ',h1,h2,h3,h4,h5,h6,h7⟩:=h;exact ⟨β',σ',⟨h1,h2.weaken (fun k h=>h.1),h4,h5,h6,fun k hk=>h7 k hk⟩,fun k hf hk=>h3 k (hf k (by omega)) (by omega)⟩
theorem TL {ops:List Oper}:∀ {rest:List Oper} {i:Nat} {bs:List Nat},CJ ops i bs rest=true→∀ (k:Nat) (o:Oper),rest[k]?=some o→∀ j want,o.guard=some (j,want)→j<i+k
 | o::rest,i,b::bs,h,k,o',hk,j,want,hg=>by
  simp only [CJ] at h;cases k with
  | zero =>
   simp at hk;subst hk;rw [hg] at h;simp only [Bool.and_eq_true] at h;exact A3.1 h.1.1.1
  | succ k =>
   have h2:CJ ops (i+1) bs rest=true:=by
    split at h
    ·exact h
    ·simp only [Bool.and_eq_true] at h;exact h.2
   have:=TL h2 k o' (by simpa using hk) j want hg;omega
 | [],_,_,_,k,o',hk,_,_,_=>by simp at hk
 | _::_,_,[],h,_,_,_,_,_,_=>by simp [CJ] at h
theorem HB:∀ (a b:List Oper),AO (a++b)=AO a++AO b
 | [],b=>rfl
 | o::a,b=>by
  simp only [List.cons_append,AO,HB a b];cases o.dst<;>rfl
theorem Dy:∀ {l:List Oper} {k:Nat} {o:Oper} {d:Nat},l[k]?=some o→o.dst=some d→d∈AO l
 | x::l,0,o,d,h,hd=>by
  simp at h;subst h;simp [AO,hd]
 | x::l,k+1,o,d,h,hd=>by
  have:=Dy (l:=l) (k:=k) (by simpa using h) hd;simp only [AO];cases x.dst with
  | none=>exact this
  | some y=>exact List.mem_cons_of_mem _ this
 | [],k,o,d,h,_=>by simp at h
theorem GI.mono {d d':List Nat} (gi:GI s d) (h:∀ x∈d,x∈d'):GI s d':=fun n tv hn g hg=>h _ (gi n tv hn g hg)
theorem QL (hs : Sim P n0 nt β σ s a w) {ctx : List (Nat × Bool)} (hf : Facts a ctx) : ∀ {ts : List TypeId} {xs : List Operand} {vs : List (AV (std E N))} {m m' : Nat}, RM.run s (R1 (O := std E N) P ctx ts xs) m = .ok (vs, m') →
    ∀ x∈vs,∀ n,Fresh a s n→n∉x.names
  | [],[],vs,m,m',h=>by cases RM.ret_ok h;intro x hx;simp at hx
  | t::ts,x::xs,vs,m,m',h=>by
    obtain ⟨v,m1,h1,h2⟩:=RM.bind_ok h;obtain ⟨r,m2,h3,h4⟩:=RM.bind_ok h2;cases RM.ret_ok h4;intro y hy
    rcases List.mem_cons.1 hy with rfl | hy
    · exact (Kk hs hf h1).2
    · exact QL hs hf h3 y hy
  | [],_::_,_,_,_,h=>(RM.fail_ok h).elim
  | _::_,[],_,_,_,h=>(RM.fail_ok h).elim
theorem RelArgs.append:∀ {xs ys:List (AV (std E N))} {us vs:List Value},RelArgs P n0 β σ s w xs us→RelArgs P n0 β σ s w ys vs→RelArgs P n0 β σ s w (xs++ys) (us++vs)
 | [],_,[],_,_,h=>h
 | x::xs,_,u::us,_,h,h'=>⟨h.1,RelArgs.append h.2 h'⟩
 | [],_,_::_,_,h,_=>h.elim
 | _::_,_,[],_,h,_=>h.elim
theorem Ext.relArgs (x:Ext P (fun _=>False) β σ s w β' σ' s' w'):∀ {xs:List (AV (std E N))} {vs:List Value},RelArgs P n0 β σ s w xs vs→RelArgs P n0 β' σ' s' w' xs vs
 | [],[],h=>h
 | y::xs,v::vs,h=>⟨x.relAV (fun _ _ h=>h) h.1,x.relArgs h.2⟩
 | [],_::_,h=>h.elim
 | _::_,[],h=>h.elim
theorem VD : ∀ {caps : List (Nat × Nat)} {vs : List Value}, vs.length = caps.length → (∀ (i b o : Nat), caps[i]? = some (b, o) → ∃ x : Value, vs[i]? = some x ∧ FH β s b o x) →
    RelArgs P n0 β σ s w (caps.map fun (b,o)=>(one (.ptr b o):AV (std E N))) vs
  | [],[],_,_=>trivial
  | (b,o)::caps,v::vs,hl,h=>by
    obtain ⟨x,hx,hr⟩:=h 0 b o rfl;simp at hx;subst hx;exact ⟨Ab hr,VD (by simpa using hl) (fun i b o hc=>by
      obtain ⟨y,hy,hr2⟩:=h (i+1) b o (by simpa using hc);exact ⟨y,by simpa using hy,hr2⟩)⟩
  | [],_::_,hl,_=>by simp at hl
  | _::_,[],hl,_=>by simp at hl
theorem WK {ops : Array Oper} {o : Oper} {id : Nat} {f : FuncId} {args : List (AV (std E N))} {m m' : Nat} (h : RM.run s (GE P cfg ops.toList o id) m = .ok (.inl f args, m')) :
    ∃ fop cargs tys caps avs fn m1 m2 m3 m4 m5,o.op=.call ⟨.value fop,cargs,tys⟩∧RM.run s (Tz (O:=std E N) ops.toList o) m=.ok ([],m1)∧RM.run s (ev (O:=std E N) P [] 0 fop) m2=.ok (.val ⟨false,[.fn f caps]⟩,m3) ∧
      P.funcs[f]? = some fn ∧ fn.body.isSome = true ∧ (fn.name == "runtime.NumGoroutine") = false ∧ RM.run s (R1 (O := std E N) P [] (fn.params.toList.take cargs.size) cargs.toList) m4 = .ok (avs, m5) ∧ args = avs ++ caps.map fun (b, o) => one (.ptr b o) := by
  unfold GE at h;obtain ⟨ctx,m1,h1,h2⟩:=RM.bind_ok h;obtain ⟨g',m2,h3,h4⟩:=RM.bind_ok h2;have hcases:=Jq h4;clear h4
  rcases hcases with ⟨sp,mm,hg0,hsp,h5⟩ | ⟨mm,h4⟩
  · obtain ⟨as',wr',hr⟩:=VF h5;cases hr
  unfold PO at h4
  split at h4
  · split at h4
    · exact (RM.fail_ok h4).elim
    · obtain ⟨p,m3,h5,h6⟩:=RM.bind_ok h4;obtain ⟨v,m4,h7,h8⟩:=RM.bind_ok h6;obtain ⟨wr',m5,h9,h10⟩:=RM.bind_ok h8
      split at h10
      · cases RM.ret_ok h10
      · exact (RM.fail_ok h10).elim
  · rename_i fop cargs tys hop;obtain ⟨fv,m3,h5,h6⟩:=RM.bind_ok h4
    split at h6
    case h_2=>exact (RM.fail_ok h6).elim
    rename_i f' caps
    split at h6
    case h_1=>exact (RM.fail_ok h6).elim
    rename_i fn0 hfn0;obtain ⟨_,m40,h60,h61⟩:=RM.bind_ok h6;obtain ⟨avs,m4,h7,h8⟩:=RM.bind_ok h61;have hg:=RM.guard_ok h60;simp only [Bool.and_eq_true,Bool.not_eq_true'] at hg
    rcases LC h8 with ⟨hgn,h9⟩ | ⟨hcaps,fns',ci,fn,ls',fr,u,dm',m2,m3,q1,q2,q3,q4,q5,q6,q7,q8,h9⟩
    · subst hgn;have hc:=Dz h3;subst hc;cases h9;exact ⟨fop,cargs,tys,caps,avs,fn0,_,_,_,_,_,hop,h1,h5,hfn0,hg.1,hg.2,h7,rfl⟩
    · cases h9
  · split at h4
    · obtain ⟨⟨as',c',wr'⟩,m3,h5,h6⟩:=RM.bind_ok h4;cases RM.ret_ok h6
    · obtain ⟨c',m3,h5,h6⟩:=RM.bind_ok h4;cases RM.ret_ok h6
    · exact (RM.fail_ok h4).elim
  · split at h4
    · obtain ⟨⟨as',v,fr⟩,m3,h5,h6⟩:=RM.bind_ok h4;obtain ⟨fr',m4,h7,h8⟩:=RM.bind_ok h6;cases RM.ret_ok h8
    · exact (RM.fail_ok h4).elim
theorem Yz (hs : Sim P n0 nt β σ s a w) {done : List Nat} (gi : GI s done) {d : Nat} (hd : d ∉ done) (hdn : d < nt) {new : Nat → Prop} (hnew : ∀ n, new n → Fresh a s n) {s2 : St0 E N} (htm : s2.tm = s.tm)
    (x:Ext P new β σ s w β' σ' s2 w') (m:Mem P n0 β' σ' s2 w') {av:AV (std E N)} {z:Value} (hr:RelAV P n0 β' σ' s2 w' av z) :
    Sim P n0 nt β' σ' { s2 with tm:=C4 s2.tm d (some ⟨[],av⟩) } (a.put (some d) z) w':=by
  have gT:∀ n,({ s2 with tm:=C4 s2.tm d (some ⟨[],av⟩) }:St0 E N).getT n=if n=d∧d<Bw then some ⟨[],av⟩ else s.getT n:=fun n=>by
    unfold State.getT;rw [← htm];exact B3 _ _ _ _
  have sub:Sub s2 ({ s2 with tm:=C4 s2.tm d (some ⟨[],av⟩) }:St0 E N):=Sub.of_same (fun _=>rfl) (fun _=>rfl);have x2:=sub.ext P (fun _=>False) β' σ' w';have ne:∀ {g:Nat×Bool},g.1∈done→g.1≠d:=fun hg e=>hd (e▸hg)
  refine ⟨Nat.le_trans hs.n0le x.size,by simp [Act.put,hs.size],fun n tv hn=>?_,sub.mem m,(hs.kept.ext x).ext x2⟩;rw [gT] at hn
  split at hn
  · rename_i he;cases hn;rw [he.1,FQ (by rw [hs.size];exact hdn)];exact .inl ⟨fun n b hm=>by simp at hm,x2.relAV (fun _ _ h=>h) hr⟩
  · rename_i he;have hnd:n≠d:=fun e=>by
      by_cases hb:d<Bw
      · exact he ⟨e,hb⟩
      · rw [e,Um hb] at hn;cases hn
    rw [CU hnd];have hg:∀ g∈tv.gs,g.1≠d:=fun g hg=>ne (gi n tv hn g hg)
    rcases hs.T n tv hn with ⟨h1,h2⟩ | ⟨h1,h2⟩
    · exact .inl ⟨(Cx hg).2 h1,x2.relAV (fun _ _ h=>h) (x.relAV (fun k hk hnw=>(hnew k hnw).t n tv hn h1 hk) h2)⟩
    · exact .inr ⟨fun h=>h1 ((Cx hg).1 h),h2⟩
theorem Mk (inl : Inl E N) (hInl : T0 P inl) (hΓ : ∀ ci ∈ cfg.gam, A9 P E N ci ∧ A9 P E N { ci with own := false }) {ops : Array Oper} (hnd : (AO ops.toList).Nodup)
    (hg:∀ (k:Nat) (o:Oper),ops.toList[k]?=some o→∀ j want,o.guard=some (j,want)→j<k) (hdn:∀ d∈AO ops.toList,d<nt) {Q:Exit→Act→World→Prop} {r:List PV} :
    ∀ (rest pre:List Oper) (id:Nat) (s:St0 E N) (ms:List (Nat×Nat)) (k:St0 E N→List (Nat×Nat)→Option (List PV)) (β:Nat→Option Nat) (σ:Nat→Option (Nat×Nat)) (a:Act) (w:World),ops.toList=pre++rest →
      DX (O:=std E N) P cfg inl ops.toList false rest id s ms k=some r→Sim P n0 nt β σ s a w→GI s (AO pre)→(∀ n,id≤n→Fresh a s n) →
      (∀ (s':St0 E N) (ms':List (Nat×Nat)) (id':Nat) (β':Nat→Option Nat) (σ':Nat→Option (Nat×Nat)) (a':Act) (w':World),k { s' with st:=id' } ms'=some r→Post P n0 nt id (fun n=>n∈AO rest) β σ s a w β' σ' s' a' w'→id≤id'→(∀ n,id'≤n→Fresh a' s' n)→GI s' (AO ops.toList)→Q .normal a' w') →
      wpOps P ops Q (List.range' pre.length rest.length) a w
  | [],pre,id,s,ms,k,β,σ,a,w,hops,h,hs,gi,hf,hQ=>by
    have:DX (O:=std E N) P cfg inl ops.toList false [] id s ms k=k { s with st:=id } ms:=rfl;rw [this] at h;refine hQ s ms id β σ a w h ⟨hs,Ext.refl _ _ _ _ _ _,fun n e h _=>h,fun n e h _=>h,rfl,fun _ _=>rfl⟩ (Nat.le_refl _) hf ?_;rw [hops];simpa using gi
  | o::rest,pre,id,s,ms,k,β,σ,a,w,hops,h,hs,gi,hf,hQ=>by
    have hgetL:ops.toList[pre.length]?=some o:=by rw [hops,List.getElem?_append_right (Nat.le_refl _)];simp
    have hget:ops[pre.length]?=some o:=by rw [← Array.getElem?_toList];exact hgetL
    have hdl:AO ops.toList=AO pre++(o.dst.toList++AO rest):=by
      rw [hops,HB];congr 1;simp only [AO];cases o.dst<;>rfl
    rw [hdl] at hnd;have hnd2:=(List.nodup_append.1 hnd);have hdone:∀ j want d,o.guard=some (j,want)→(ops[j]?).bind (·.dst)=some d→d∈AO pre:=fun j want d h1 h2=>by
      have hj:=hg pre.length o hgetL j want h1;obtain ⟨x,hx,hxd⟩:=Option.bind_eq_some_iff.1 h2;rw [← Array.getElem?_toList,hops,List.getElem?_append_left hj] at hx;exact Dy hx hxd
    have hdst:∀ d,o.dst=some d→d∉AO pre∧d<nt:=fun d hd=>by
      refine ⟨fun hm=>hnd2.2.2 d hm d (by simp [hd]) rfl,hdn d (by rw [hdl];simp [hd])⟩
    have hpre2:ops.toList=(pre++[o])++rest:=by rw [hops];simp
    have hlen:(pre++[o]).length=pre.length+1:=by simp
    have hgi2:∀ {s':St0 E N},GI s' (o.dst.toList++AO pre)→GI s' (AO (pre++[o])):=fun {s'} g=>g.mono (fun x hx=>by
      rw [HB]
      rcases List.mem_append.1 hx with h | h
      · refine List.mem_append_right _ ?_;simp only [AO];cases hd:o.dst with
        | none=>rw [hd] at h;simp at h
        | some d=>rw [hd] at h;simpa using h
      · exact List.mem_append_left _ h)
    have next : ∀ (wr : Wr (std E N)) (ms2 : List (Nat × Nat)), DX (O := std E N) P cfg inl ops.toList false rest (id + Aw P o) (s.apply wr) ms2 k = some r → ∀ a' w', After P n0 nt (fun n => id ≤ n ∧ n < id + Aw P o) β σ s a w o.dst wr a' w' → GI (s.apply wr) (o.dst.toList ++ AO pre) →
        wpOps P ops Q (List.range' (pre.length+1) rest.length) a' w':=fun wr ms2 h a' w' ha hg2=>by
      obtain ⟨β',σ',p1,p2⟩:=ha.post;rw [← hlen];refine Mk inl hInl hΓ (by rw [hdl];exact hnd) hg hdn rest (pre++[o]) (id+Aw P o) (s.apply wr) ms2 k β' σ' a' w' hpre2 h p1.sim (hgi2 hg2) (fun n hn=>p2 n hf hn) (fun s' ms' id' β'' σ'' a'' w'' hk hp hle hf' hg'=>?_);have hpt:=p1.trans hp (Nat.le_add_right _ _);refine hQ s' ms' id' β'' σ'' a'' w'' hk ⟨hpt.sim,hpt.ext,hpt.cleanB,hpt.cleanH,hpt.defers,fun n hn=>hpt.tmps n (fun h=>hn ?_)⟩ (by omega) hf' hg';simp only [AO]
      rcases h with h | h
      · rw [h];simp
      · cases o.dst with
        | none=>exact h
        | some d=>exact List.mem_cons_of_mem _ h
    rw [List.length_cons,List.range'_succ,wpOps_cons];unfold DX at h
    split at h
    · cases h
    · rename_i as wr rd hrun;obtain ⟨has,h2⟩:=JA h;exact OP hs gi hdone hdst (fun n h1 _=>hf n h1) hget hrun has (fun a' w' ha hg2=>next wr _ h2 a' w' ha hg2)
    · rename_i g f fns args dm nx rd hrun;obtain ⟨c,hc,h2⟩:=Option.bind_eq_some_iff.1 h
      split at h2
      · cases h2
      · rename_i wr hn;exact Py hΓ hs gi hdone hdst (fun n h1 _=>hf n h1) hget hrun (c:=c) (by
          cases g with
          | none=>exact hc
          | some b=>cases b<;>exact hc) hn (fun a' w' ha hg2=>next wr _ h2 a' w' ha hg2)
    · rename_i f args rd hrun;obtain ⟨fop,cargs,tys,caps,avs,fn,m1,m2,m3,m4,m5,hop,hctx,hev,hfn,hbody,hname,hall,rfl⟩:=WK hrun;have hf0:Facts a []:=fun n b hm=>by simp at hm
      have hw:=(UM hs gi hctx hdone).1.2 hf0;obtain ⟨hv1,hvn⟩:=Kk hs hf0 hev;have hargs:=Qi hs hf0 hall;have hnm:=QL hs hf0 hall;obtain ⟨vs,e1,e2,e3⟩:∃ vs:List Value,a.eval fop=.func (.func f) #[] vs.toArray∧vs.length=caps.length∧∀ (i b o:Nat),caps[i]?=some (b,o)→∃ x:Value,vs[i]?=some x∧FH β s b o x:=by
        obtain ⟨hr1,hr2⟩:=hv1;have hr2:(a.eval fop).oneCell'=true:=hr2;rw [Ad hr2] at hr1;exact hr1.1
      have hnb:fn.body.isNone=false:=by cases hb:fn.body<;>simp_all
      have hex:(execOp a.eval o).run P w=.ok (.enter f (cargs.map a.eval++vs.toArray)) w:=by
        simp only [beq_eq_false_iff_ne,ne_eq] at hname;simp [execOp,hop,resolve,Deferred.ofValue,e1,invoke,callFunc,hfn,hname,hnb];intro hbn;rw [hbn] at hbody;cases hbody
      have subst0:Sub s ({ s with st:=id+Aw P o }:St0 E N):=Sub.of_same (fun _=>rfl) (fun _=>rfl);have hcall:=hInl f _ _ _ r h n0 β σ w (cargs.toList.map a.eval++vs) hs.n0le (subst0.mem hs.M) (hs.kept.ext (subst0.ext P (fun _=>False) β σ w)) (fun n hn=>⟨fun q e he=>(hf n (by have:id+Aw P o≤n:=hn;omega)).b q e he,fun q e he=>(hf n (by have:id+Aw P o≤n:=hn;omega)).h q e he⟩)
        (fun x hx n hn=>by
          rcases Nat.lt_or_ge n (id+Aw P o) with h | h
          · exact h
          · have hfn:=hf n (by omega)
            rcases List.mem_append.1 hx with hx | hx
            · exact (hnm x hx n hfn hn).elim
            · obtain ⟨p,hp,rfl⟩:=List.mem_map.1 hx;refine (hvn n hfn ?_).elim;have:n=p.1:=by simpa [AV.names,one,AB,AC.names] using hn
              simp only [AV.names,AB,AC.names,List.append_nil];exact List.mem_map.2 ⟨p,hp,this.symm⟩)
        (by
          exact (subst0.ext P (fun _=>False) β σ w).relArgs (RelArgs.append hargs (VD (n0:=n0) (P:=P) (σ:=σ) (w:=w) e2 e3)))
      unfold wpOp;simp only [hget,hw,if_true];refine .inl ?_;unfold Oper.wp;rw [hex];have harr:(cargs.toList.map a.eval++vs).toArray=cargs.map a.eval++vs.toArray:=by apply Array.ext';simp
      rw [harr] at hcall;refine Calls.mono hcall (fun e w' hp=>?_);cases e with
      | panicked ch=>exact hp.elim
      | outgrown=>exact hp.elim
      | returned v =>
        obtain ⟨av,s2,β',σ',hk,htm,hst,hm,hx,hcb,hch,hrel,hfr⟩:=hp;have hst':id+Aw P o≤s2.st:=hst;have x0:Ext P (fun n=>id≤n) β σ s w β' σ' s2 w':=((subst0.ext P (fun _=>False) β σ w).trans hx).weaken (fun n h=>h.elim (fun h=>h.elim) (fun h=>by have:id+Aw P o≤n:=h;omega));have hnew:∀ n,id≤n→Fresh a s n:=hf;have gT2:∀ n,s2.getT n=s.getT n:=fun n=>by unfold State.getT;rw [show s2.tm=s.tm from htm]
        rw [← hlen];have tail : ∀ (s3 : St0 E N) (a3 : Act), DX (O := std E N) P cfg inl ops.toList false rest s2.st s3 (ms ++ [(0, 0)]) k = some r → Post P n0 nt id (fun n => o.dst = some n) β σ s a w β' σ' s3 a3 w' → GI s3 (o.dst.toList ++ AO pre) → (∀ n, s2.st ≤ n → Fresh a3 s3 n) →
            wpOps P ops Q (List.range' (pre++[o]).length rest.length) a3 w':=fun s3 a3 hk3 hp3 hg3 hf3=>by
          refine Mk inl hInl hΓ (by rw [hdl];exact hnd) hg hdn rest (pre++[o]) s2.st s3 (ms++[(0,0)]) k β' σ' a3 w' hpre2 hk3 hp3.sim (hgi2 hg3) hf3 (fun s' ms' id' β'' σ'' a'' w'' hkk hpp hle hf' hg'=>?_);have hpt:=hp3.trans hpp (by omega);refine hQ s' ms' id' β'' σ'' a'' w'' hkk ⟨hpt.sim,hpt.ext,hpt.cleanB,hpt.cleanH,hpt.defers,fun n hn=>hpt.tmps n (fun h=>hn ?_)⟩ (by omega) hf' hg';simp only [AO]
          rcases h with h | h
          · rw [h];simp
          · cases o.dst with
            | none=>exact h
            | some d=>exact List.mem_cons_of_mem _ h
        cases hd:o.dst with
        | none =>
          rw [hd] at hk tail;refine tail s2 a hk ⟨⟨Nat.le_trans hs.n0le x0.size,hs.size,fun n tv hn=>?_,hm,hs.kept.ext x0⟩,x0,hcb,hch,rfl,fun _ _=>rfl⟩ (fun n tv hn=>gi n tv (by rw [← gT2];exact hn)) (fun n hn=>⟨fun q tv hq hg=>?_,(hfr n hn).1.1,(hfr n hn).1.2⟩)
          · rw [gT2] at hn
            rcases hs.T n tv hn with ⟨h1,h2⟩ | ⟨h1,h2⟩
            · exact .inl ⟨h1,x0.relAV (fun q hq hnw=>(hnew q hnw).t n tv hn h1 hq) h2⟩
            · exact .inr ⟨h1,h2⟩
          · rw [gT2] at hq;exact (hf n (by omega)).t q tv hq hg
        | some d =>
          rw [hd] at hk tail;have hdd:=hdst d hd;have gT3:∀ n,({ s2 with tm:=C4 s2.tm d (some ⟨[],av⟩) }:St0 E N).getT n=if n=d∧d<Bw then some ⟨[],av⟩ else s.getT n:=fun n=>by
            unfold State.getT;rw [← show s2.tm=s.tm from htm];exact B3 _ _ _ _
          refine tail { s2 with tm:=C4 s2.tm d (some ⟨[],av⟩) } (a.put (some d) v) hk ⟨Yz hs gi hdd.1 hdd.2 hnew htm x0 hm hrel,?_,hcb,hch,rfl,fun n hn=>CU (fun e=>hn (by rw [e]))⟩ (fun n tv hn g hg=>?_) (fun n hn=>⟨fun q tv hq hg=>?_,(hfr n hn).1.1,(hfr n hn).1.2⟩)
          · exact (x0.trans ((Sub.of_same (s:=s2) (s':={ s2 with tm:=C4 s2.tm d (some ⟨[],av⟩) }) (fun _=>rfl) (fun _=>rfl)).ext P (fun _=>False) β' σ' w')).weaken (fun n h=>h.elim (fun h=>h) (fun h=>h.elim))
          · rw [gT3] at hn
            split at hn
            · cases hn;simp at hg
            · exact List.mem_append_right _ (gi n tv hn g hg)
          · rw [gT3] at hq
            split at hq
            · cases hq;exact (hfr n hn).2
            · rename_i hne;exact (hf n (by omega)).t q tv hq ((Cx (d:=d) (v:=v) (fun g hg2 e=>hdd.1 (by have:=gi q tv hq g hg2;rw [e] at this;exact this))).1 hg)
end
end Go.Px
end
section
namespace Go.Px
section
variable {E:Env} {N:Nat} {P:Program} {cfg:Cfg} {n0 n0':Nz} {nt:Nat} {β β':Nat→Option Nat} {σ σ':Nat→Option (Nat×Nat)} {s s':St0 E N} {a:Act} {w w':World}
theorem N8 {O : Alg} : ∀ (d : Nat) (t : TM (TV O)) (n : Nat), TM.get d (C6 t) n = match TM.get d t n with
    | some tv=>match tv.gs with
      | []=>some tv
      | _=>none
    | none=>none
  | 0,.e,n=>rfl
  | 0,.leaf tv,n=>by
    cases h:tv.gs<;>simp [C6,h,TM.get]
  | 0,.node l r,n=>rfl
  | d+1,.e,n=>rfl
  | d+1,.leaf tv,n=>by
    cases h:tv.gs<;>simp [C6,h,TM.get]
  | d+1,.node l r,n=>by
    simp only [C6,TM.get];cases h:Nat.beq (n % 2) 0 with
    | true=>exact N8 d l (n / 2)
    | false=>exact N8 d r (n / 2)
structure WF (s:St0 E N):Prop where
 fresh:∀ n,s.st≤n→E8 s n∧∀ k tv,s.getT k=some tv→n∉tv.v.names
 gs:∀ n tv,s.getT n=some tv→tv.gs=[]
theorem WF.gi (h:WF s):GI s []:=fun n tv hn g hg=>by rw [h.gs n tv hn] at hg;simp at hg
theorem WF.free (h:WF s) (a:Act):∀ n,s.st≤n→Fresh a s n:=fun n hn=>⟨fun k tv hk _=>(h.fresh n hn).2 k tv hk,(h.fresh n hn).1.1,(h.fresh n hn).1.2⟩
theorem Vk (s : St0 E N) (q n : Nat) : ({ s with tm := C6 s.tm, st := q } : St0 E N).getT n = match s.getT n with
    | some tv=>match tv.gs with
      | []=>some tv
      | _=>none
    | none=>none:=by
  unfold State.getT Bg;cases Nat.blt n Bw with
  | true =>
    show TM.get HN (C6 s.tm) n=_;rw [N8];cases TM.get HN s.tm n<;>rfl
  | false=>rfl
theorem FD {q n:Nat} {tv:TV (std E N)} (h:({ s with tm:=C6 s.tm,st:=q }:St0 E N).getT n=some tv):s.getT n=some tv∧tv.gs=[]:=by
 rw [Vk] at h;cases hs:s.getT n with
 | none=>rw [hs] at h;cases h
 | some u =>
  rw [hs] at h;simp only at h
  split at h
  ·rename_i hg;cases h;exact ⟨rfl,hg⟩
  ·cases h
theorem Sim.purged (hs:Sim P n0 nt β σ s a w) (q:Nat):Sim P n0 nt β σ { s with tm:=C6 s.tm,st:=q } a w:=by
 have sub:Sub s ({ s with tm:=C6 s.tm,st:=q }:St0 E N):=Sub.of_same (fun _=>rfl) (fun _=>rfl);refine ⟨hs.n0le,hs.size,fun n tv hn=>?_,sub.mem hs.M,hs.kept.ext (sub.ext P (fun _=>False) β σ w)⟩;obtain ⟨h1,h2⟩:=FD hn
 rcases hs.T n tv h1 with ⟨h3,h4⟩ | ⟨h3,h4⟩
 ·exact .inl ⟨h3,(sub.ext P (fun _=>False) β σ w).relAV (fun _ _ h=>h) h4⟩
 ·exact .inr ⟨h3,h4⟩
theorem MG:∀ {l:List Nat},RL l=true→l.Nodup
 | [],_=>List.nodup_nil
 | n::l,h=>by
  simp only [RL,Bool.and_eq_true,Bool.not_eq_true'] at h;exact List.nodup_cons.2 ⟨fun hm=>(by have:=BW.2 hm;rw [this] at h;cases h.1),MG h.2⟩
theorem KP:∀ {l:List Oper},FF nt l=true→∀ d∈AO l,d<nt
 | [],_,d,hd=>by simp [AO] at hd
 | o::l,h,d,hd=>by
  simp only [FF,Bool.and_eq_true] at h;simp only [AO] at hd;cases ho:o.dst with
  | none=>rw [ho] at hd;exact KP h.2 d hd
  | some x =>
   rw [ho] at hd h
   rcases List.mem_cons.1 hd with rfl | hd
   ·exact A3.1 h.1
   ·exact KP h.2 d hd
theorem WP (inl : Inl E N) (hInl : T0 P inl) (hΓ : ∀ ci ∈ cfg.gam, A9 P E N ci ∧ A9 P E N { ci with own := false }) {ops : Array Oper} {rid : Nat} (hdn : FF nt ops.toList = true) {Q : Exit → Act → World → Prop} {r : List PV}
    {k:St0 E N→Option (List PV)} (h:EM (O:=std E N) P cfg inl ops.toList false s k=some r) (hs:Sim P n0 nt β σ s a w) (wf:WF s)
    (hQ:∀ (s':St0 E N) (β':Nat→Option Nat) (σ':Nat→Option (Nat×Nat)) (a':Act) (w':World),k s'=some r→Post P n0 nt s.st (fun n=>n∈AO ops.toList) β σ s a w β' σ' s' a' w'→WF s'→s.st≤s'.st→Q .normal a' w') :
    (Code.region rid ops false).wp P Q a w:=by
  unfold EM at h
  split at h
  · cases h
  · rename_i hok;simp only [Bool.and_eq_true] at hok;have hg:=TL hok.2.1;refine wp_region ?_;have hr:List.range ops.size=List.range' ([]:List Oper).length ops.toList.length:=by simp [List.range_eq_range']
    rw [hr];refine Mk inl hInl hΓ (MG hok.1) (fun k o ho j want hgd=>by have:=hg k o ho j want hgd;omega) (KP hdn) ops.toList [] s.st s [] _ β σ a w rfl h hs wf.gi (wf.free a) (fun s' ms' id' β' σ' a' w' hk hp hle hf hgi=>?_);have wf':WF ({ s' with tm:=C6 s'.tm,st:=id' }:St0 E N):=⟨fun n hn=>⟨⟨(hf n hn).b,(hf n hn).h⟩,fun k tv hk=>by
      obtain ⟨h1,h2⟩:=FD hk;exact (hf n hn).t k tv h1 (fun m b hm=>by rw [h2] at hm;simp at hm)⟩,fun n tv hn=>(FD hn).2⟩
    have sub:Sub s' ({ s' with tm:=C6 s'.tm,st:=id' }:St0 E N):=Sub.of_same (fun _=>rfl) (fun _=>rfl);exact hQ _ β' σ' a' w' hk ⟨hp.sim.purged id',(hp.ext.trans (sub.ext P (fun _=>False) β' σ' w')).weaken (fun n h=>h.elim (fun h=>h) (fun h=>h.elim)),hp.cleanB,hp.cleanH,hp.defers,hp.tmps⟩ wf' hle
end
end Go.Px
end
section
namespace Go.Px
section
variable {E:Env} {N:Nat} {P:Program} {cfg:Cfg} {n0 n0':Nz} {nt:Nat} {β β':Nat→Option Nat} {σ σ':Nat→Option (Nat×Nat)} {s s' s2:St0 E N} {a:Act} {w w':World}
def BK (s:St0 E N) (p:Nat):Option (TV (std E N))×Option (BEnt (std E N))×Option (HEnt (std E N)) :=
  (if p % 3=0 then s.getT (p / 3) else none,if p % 3=1 then s.getB (p / 3) else none,if p % 3=2 then s.getH (p / 3) else none)
def Same (s s':St0 E N):Prop:=∀ p,BK s p=BK s' p
theorem XB {n:Nat} (h:BK s (3 * n)=BK s' (3 * n)):s.getT n=s'.getT n:=by
 have h0:(3 * n) % 3=0:=by omega
 have h1:(3 * n) / 3=n:=by omega
 have:=congrArg (fun x=>x.1) h;simpa [BK,h0,h1] using this
theorem W3 {n:Nat} (h:BK s (3 * n+1)=BK s' (3 * n+1)):s.getB n=s'.getB n:=by
 have h0:(3 * n+1) % 3=1:=by omega
 have h1:(3 * n+1) / 3=n:=by omega
 have:=congrArg (fun x=>x.2.1) h;simpa [BK,h0,h1] using this
theorem Wz {n:Nat} (h:BK s (3 * n+2)=BK s' (3 * n+2)):s.getH n=s'.getH n:=by
 have h0:(3 * n+2) % 3=2:=by omega
 have h1:(3 * n+2) / 3=n:=by omega
 have:=congrArg (fun x=>x.2.2) h;simpa [BK,h0,h1] using this
theorem Same.T (h:Same s s') (n:Nat):s.getT n=s'.getT n:=XB (h _)
theorem Same.B (h:Same s s') (n:Nat):s.getB n=s'.getB n:=W3 (h _)
theorem Same.H (h:Same s s') (n:Nat):s.getH n=s'.getH n:=Wz (h _)
theorem Same.refl (s:St0 E N):Same s s:=fun _=>rfl
theorem Same.symm (h:Same s s'):Same s' s:=fun p=>(h p).symm
theorem Same.trans (h:Same s s') (k:Same s' s2):Same s s2:=fun p=>(h p).trans (k p)
theorem Same.sub (h:Same s s'):Sub s s':=Sub.of_same (fun n=>(h.B n).symm) (fun n=>(h.H n).symm)
theorem Same.of (hT:∀ n,s.getT n=s'.getT n) (hB:∀ n,s.getB n=s'.getB n) (hH:∀ n,s.getH n=s'.getH n):Same s s':=fun p=>by
 simp only [BK,hT,hB,hH]
theorem Sim.same (hs:Sim P n0 nt β σ s a w) (h:Same s s'):Sim P n0 nt β σ s' a w :=
 ⟨hs.n0le,hs.size,fun n tv hn=>by
  rw [← h.T] at hn
  rcases hs.T n tv hn with ⟨h1,h2⟩ | h1
  ·exact .inl ⟨h1,(h.sub.ext P (fun _=>False) β σ w).relAV (fun _ _ h=>h) h2⟩
  ·exact .inr h1,h.sub.mem hs.M,hs.kept.ext (h.sub.ext P (fun _=>False) β σ w)⟩
theorem Fresh.same {n:Nat} (hf:Fresh a s n) (h:Same s s'):Fresh a s' n :=
 ⟨fun k tv hk=>hf.t k tv (by rw [h.T];exact hk),fun k e hk=>hf.b k e (by rw [h.B];exact hk),fun k e hk=>hf.h k e (by rw [h.H];exact hk)⟩
theorem GI.same {done:List Nat} (gi:GI s done) (h:Same s s'):GI s' done:=fun n tv hn=>gi n tv (by rw [h.T];exact hn)
theorem Post.same {L:Nat} {D:Nat→Prop} {a':Act} (p:Post P n0 nt L D β σ s a w β' σ' s' a' w') (h:Same s' s2):Post P n0 nt L D β σ s a w β' σ' s2 a' w' :=
 ⟨p.sim.same h,(p.ext.trans (h.sub.ext P (fun _=>False) β' σ' w')).weaken (fun n hn=>hn.elim (fun h=>h) (fun h=>h.elim)),fun n e he=>p.cleanB n e (by rw [h.B];exact he),fun n e he=>p.cleanH n e (by rw [h.H];exact he),p.defers,p.tmps⟩
theorem Cl {k p:Nat}:(Cd k).testBit p=true↔k=p:=by
 unfold Cd;rw [Nat.testBit_two_pow];simp
theorem LT (f:Nat→Nat) {α:Type}:∀ (l:List (Nat×α)) (p:Nat),(Jt f l).testBit p=true↔∃ n,n∈l.map (·.1)∧f n=p
 | [],p=>by simp [Jt]
 | (n,v)::l,p=>by
  simp only [Jt,Nat.testBit_or,Bool.or_eq_true,Cl,LT f l p,List.map_cons,List.mem_cons];constructor
  ·rintro (h | ⟨m,h1,h2⟩)
   ·exact ⟨n,.inl rfl,h⟩
   ·exact ⟨m,.inr h1,h2⟩
  ·rintro ⟨m,rfl | h1,h2⟩
   ·exact .inl h2
   ·exact .inr ⟨m,h1,h2⟩
theorem OG {wr:Wr (std E N)} {p:Nat}:wr.mask.testBit p=true↔(∃ n,n∈wr.ts.map (·.1)∧3 * n=p)∨(∃ n,n∈wr.bs.map (·.1)∧3 * n+1=p)∨(∃ n,n∈wr.hs.map (·.1)∧3 * n+2=p):=by
 simp only [Wr.mask,Nat.testBit_or,Bool.or_eq_true,LT,or_assoc]
theorem Is:∀ {ts:List (Nat×Option (TV (std E N)))} {t:TM (TV (std E N))} {n:Nat},n∉ts.map (·.1)→Bg (State.applyT t ts) n=Bg t n
 | [],t,n,_=>rfl
 | (k,v)::r,t,n,h=>by
  simp only [List.map_cons,List.mem_cons,not_or] at h;simp only [State.applyT];rw [Is h.2,B3,if_neg (fun e=>h.1 e.1)]
theorem TR:∀ {ts:List (Nat×Option (TV (std E N)))} {t t':TM (TV (std E N))} {n:Nat},n∈ts.map (·.1)→Bg (State.applyT t ts) n=Bg (State.applyT t' ts) n
 | [],t,t',n,h=>by simp at h
 | (k,v)::r,t,t',n,h=>by
  simp only [State.applyT]
  by_cases hr:n∈r.map (·.1)
  ·exact TR hr
  ·rw [Is hr,Is hr,B3,B3];have hk:n=k:=by
    simp only [List.map_cons,List.mem_cons] at h;exact h.resolve_right hr
   by_cases hb:k<Bw
   ·rw [if_pos ⟨hk,hb⟩,if_pos ⟨hk,hb⟩]
   ·rw [if_neg (fun e=>hb e.2),if_neg (fun e=>hb e.2)];have hn:Nat.blt n Bw=false:=by
     cases h:Nat.blt n Bw with
     | false=>rfl
     | true=>exact (hb (hk▸A3.1 h)).elim
    unfold Bg;rw [hn]
theorem Ny {α:Type}:∀ {ts:List (Nat×Option α)} {t t':List (Nat×α)} {n:Nat},n∈ts.map (·.1)→AD (Ag t ts) n=AD (Ag t' ts) n
 | [],t,t',n,h=>by simp at h
 | (k,v)::r,t,t',n,h=>by
  simp only [Ag]
  by_cases hr:n∈r.map (·.1)
  ·exact Ny hr
  ·rw [B5 hr,B5 hr,Am,Am];have hk:n=k:=by
    simp only [List.map_cons,List.mem_cons] at h;exact h.resolve_right hr
   rw [if_pos hk,if_pos hk]
theorem HJ {wr:Wr (std E N)} {p:Nat} (h:¬ wr.mask.testBit p=true):BK (s.apply wr) p=BK s p:=by
 rw [OG] at h;have hT:p % 3=0→(s.apply wr).getT (p / 3)=s.getT (p / 3):=fun hp=>Is (fun hm=>h (.inl ⟨p / 3,hm,by omega⟩))
 have hB:p % 3=1→(s.apply wr).getB (p / 3)=s.getB (p / 3):=fun hp=>B5 (fun hm=>h (.inr (.inl ⟨p / 3,hm,by omega⟩)))
 have hH:p % 3=2→(s.apply wr).getH (p / 3)=s.getH (p / 3):=fun hp=>B5 (fun hm=>h (.inr (.inr ⟨p / 3,hm,by omega⟩)))
 rcases (by omega:p % 3=0∨p % 3=1∨p % 3=2) with hp | hp | hp
 ·simp [BK,hp,hT hp]
 ·simp [BK,hp,hB hp]
 ·simp [BK,hp,hH hp]
theorem M2 {wr:Wr (std E N)} {p:Nat} (h:wr.mask.testBit p=true) (s s':St0 E N):BK (s.apply wr) p=BK (s'.apply wr) p:=by
 rw [OG] at h
 rcases h with ⟨n,hn,rfl⟩ | ⟨n,hn,rfl⟩ | ⟨n,hn,rfl⟩
 ·have h0:(3 * n) % 3=0:=by omega
  have h1:(3 * n) / 3=n:=by omega
  have:(s.apply wr).getT n=(s'.apply wr).getT n:=TR (t:=s.tm) (t':=s'.tm) hn;simpa [BK,h0,h1] using this
 ·have h0:(3 * n+1) % 3=1:=by omega
  have h1:(3 * n+1) / 3=n:=by omega
  have:(s.apply wr).getB n=(s'.apply wr).getB n:=Ny (t:=s.bx) (t':=s'.bx) hn;simpa [BK,h0,h1] using this
 ·have h0:(3 * n+2) % 3=2:=by omega
  have h1:(3 * n+2) / 3=n:=by omega
  have:(s.apply wr).getH n=(s'.apply wr).getH n:=Ny (t:=s.hp) (t':=s'.hp) hn;simpa [BK,h0,h1] using this
theorem Qy {α:Type}:∀ {r:RM (std E N) α} {m m':Nat} {x:α},RM.run s r m=.ok (x,m')→∀ p,m.testBit p=true→m'.testBit p=true:=by
 intro r
 induction r with
 | ret v=>intro m m' x h p hp;simp only [RM.run] at h;cases h;exact hp
 | fail w=>intro m m' x h;simp only [RM.run] at h;cases h
 | t n f ih=>intro m m' x h p hp;exact ih _ h p (by rw [Nat.testBit_or,hp];rfl)
 | b n f ih=>intro m m' x h p hp;exact ih _ h p (by rw [Nat.testBit_or,hp];rfl)
 | h n f ih=>intro m m' x h p hp;exact ih _ h p (by rw [Nat.testBit_or,hp];rfl)
theorem TA {α:Type}:∀ {r:RM (std E N) α} {m m':Nat} {x:α},RM.run s r m=.ok (x,m')→(∀ p,m'.testBit p=true→BK s p=BK s' p)→RM.run s' r m=.ok (x,m'):=by
 intro r
 induction r with
 | ret v=>intro m m' x h _;exact h
 | fail w=>intro m m' x h _;simp only [RM.run] at h;cases h
 | t n f ih =>
  intro m m' x h ha;have hb:m'.testBit (3 * n)=true:=Qy (r:=f (s.getT n)) h _ (by rw [Nat.testBit_or,Cl.2 rfl,Bool.or_true]);simp only [RM.run] at h ⊢;rw [← XB (ha _ hb)];exact ih _ h ha
 | b n f ih =>
  intro m m' x h ha;have hb:m'.testBit (3 * n+1)=true:=Qy (r:=f (s.getB n)) h _ (by rw [Nat.testBit_or,Cl.2 rfl,Bool.or_true]);simp only [RM.run] at h ⊢;rw [← W3 (ha _ hb)];exact ih _ h ha
 | h n f ih =>
  intro m m' x h ha;have hb:m'.testBit (3 * n+2)=true:=Qy (r:=f (s.getH n)) h _ (by rw [Nat.testBit_or,Cl.2 rfl,Bool.or_true]);simp only [RM.run] at h ⊢;rw [← Wz (ha _ hb)];exact ih _ h ha
structure Rc (E:Env) (N:Nat) where
 id:Nat
 rd:Nat
 wr:Wr (std E N)
def stD (D:Nat→Bool):Nat→List (Rc E N)→St0 E N→St0 E N
 | _,[],s=>s
 | i,t::tr,s=>stD D (i+1) tr (match D i with | true=>s.apply t.wr | false=>s)
theorem JK {D D' : Nat → Bool} {p : Nat} : ∀ {tr : List (Rc E N)} {i : Nat} {s s' : St0 E N}, BK s p = BK s' p → (∀ (k : Nat) (t : Rc E N), tr[k]? = some t → t.wr.mask.testBit p = true → D (i + k) = D' (i + k)) →
    BK (stD D i tr s) p=BK (stD D' i tr s') p
  | [],i,s,s',h,_=>h
  | t::tr,i,s,s',h,hd=>by
    simp only [stD];refine JK ?_ (fun k u hk hu=>by have:=hd (k+1) u (by simpa using hk) hu;rw [show i+1+k=i+(k+1) by omega];exact this)
    by_cases hb:t.wr.mask.testBit p=true
    · have:=hd 0 t rfl hb;rw [Nat.add_zero] at this;rw [← this];cases D i with
      | true=>exact M2 hb _ _
      | false=>exact h
    · have e1 : BK (match D i with | true => s.apply t.wr | false => s) p = BK s p := by
        cases D i with
        | true=>exact HJ hb
        | false=>rfl
      have e2:BK (match D' i with | true=>s'.apply t.wr | false=>s') p=BK s' p:=by
        cases D' i with
        | true=>exact HJ hb
        | false=>rfl
      rw [e1,e2];exact h
theorem NU {D : Nat → Bool} {p : Nat} {t : Rc E N} (s0 : St0 E N) : ∀ {tr : List (Rc E N)} {i k : Nat} {s : St0 E N}, tr[k]? = some t → D (i + k) = true → t.wr.mask.testBit p = true →
    (∀ (j:Nat) (u:Rc E N),k<j→tr[j]?=some u→u.wr.mask.testBit p=true→D (i+j)=false)→BK (stD D i tr s) p=BK (s0.apply t.wr) p
  | [],i,k,s,hk,_,_,_=>by simp at hk
  | u::tr,i,0,s,hk,hd,hb,hl=>by
    simp at hk;subst hk;rw [Nat.add_zero] at hd;simp only [stD,hd];have:=JK (D:=D) (D':=fun _=>false) (p:=p) (tr:=tr) (i:=i+1) (s:=s.apply u.wr) (s':=s0.apply u.wr) (M2 hb _ _) (fun k v hk hv=>by
      have:=hl (k+1) v (by omega) (by simpa using hk) hv;rw [show i+1+k=i+(k+1) by omega];exact this)
    rw [this];have none:∀ (tr:List (Rc E N)) (i:Nat) (s:St0 E N),stD (fun _=>false) i tr s=s:=fun tr=>by
      induction tr with
      | nil=>intro i s;rfl
      | cons v tr ih=>intro i s;exact ih _ _
    rw [none]
  | u::tr,i,k+1,s,hk,hd,hb,hl=>by
    simp only [stD];exact NU s0 (tr:=tr) (i:=i+1) (k:=k) (by simpa using hk) (by rw [show i+1+k=i+(k+1) by omega];exact hd) hb (fun j v hj hv hp=>by
      have:=hl (j+1) v (by omega) (by simpa using hv) hp;rw [show i+1+j=i+(j+1) by omega];exact this)
def OpGood (P:Program) (cfg:Cfg) (all:List Oper) (o:Oper) (s:St0 E N) (t:Rc E N):Prop :=
  (∃ as,RM.run s (GE (O:=std E N) P cfg all o t.id) 0=.ok (.plain as t.wr,t.rd)∧∀ b∈as,b=true) ∨
  (∃ (g:Option Bool) (f:FuncId) (fns:List Nat) (ls dm:List AR) (next:List PV→Option (Wr (std E N))) (c:List PV),RM.run s (GE (O:=std E N) P cfg all o t.id) 0=.ok (.call g f fns ls dm next,t.rd) ∧
    (match g with | none=>E f fns (ls.map Leaf.pv) | some b=>if b then E f fns (ls.map Leaf.pv) else some (dm.map Leaf.pv))=some c∧next c=some t.wr)
theorem OpGood.agree {all:List Oper} {o:Oper} {t:Rc E N} (h:OpGood P cfg all o s t) (ha:∀ p,t.rd.testBit p=true→BK s p=BK s' p):OpGood P cfg all o s' t:=by
 rcases h with ⟨as,h1,h2⟩ | ⟨g,f,fns,ls,dm,next,c,h1,h2,h3⟩
 ·exact .inl ⟨as,TA h1 ha,h2⟩
 ·exact .inr ⟨g,f,fns,ls,dm,next,c,TA h1 ha,h2,h3⟩
def TrOK (P:Program) (cfg:Cfg) (all:List Oper):List Oper→Nat→St0 E N→List (Rc E N)→Prop
 | [],_,_,[]=>True
 | o::r,id,s,t::tr=>t.id=id∧OpGood P cfg all o s t∧TrOK P cfg all r (id+Aw P o) (s.apply t.wr) tr
 | _,_,_,_=>False
theorem TrOK.len {all:List Oper}:∀ {r:List Oper} {id:Nat} {s:St0 E N} {tr:List (Rc E N)},TrOK P cfg all r id s tr→tr.length=r.length
 | [],_,_,[],_=>rfl
 | o::r,_,_,t::tr,h=>by simp [h.2.2.len]
 | [],_,_,_::_,h=>h.elim
 | _::_,_,_,[],h=>h.elim
theorem TrOK.good {all:List Oper}:∀ {r:List Oper} {id i:Nat} {s:St0 E N} {tr:List (Rc E N)},TrOK P cfg all r id s tr→∀ (k:Nat) (o:Oper) (t:Rc E N),r[k]?=some o→tr[k]?=some t→OpGood P cfg all o (stD (fun j=>decide (j<i+k)) i tr s) t
 | [],_,_,_,[],_,k,o,t,hk,_=>by simp at hk
 | o::r,id,i,s,t::tr,h,0,o',t',hk,ht=>by
  simp at hk ht;subst hk;subst ht;have none:∀ (tr:List (Rc E N)) (j:Nat) (s:St0 E N),i≤j→stD (fun j=>decide (j<i+0)) j tr s=s:=fun tr=>by
   induction tr with
   | nil=>intro j s _;rfl
   | cons v tr ih =>
    intro j s hj;simp only [stD];rw [show decide (j<i+0)=false by simp;omega];exact ih _ _ (by omega)
  rw [none _ _ _ (Nat.le_refl _)];exact h.2.1
 | o::r,id,i,s,t::tr,h,k+1,o',t',hk,ht=>by
  simp only [stD];rw [show decide (i<i+(k+1))=true by simp];have:=TrOK.good (i:=i+1) h.2.2 k o' t' (by simpa using hk) (by simpa using ht);rw [show i+1+k=i+(k+1) by omega] at this;exact this
 | [],_,_,_,_::_,h,_,_,_,_,_=>h.elim
 | _::_,_,_,_,[],h,_,_,_,_,_=>h.elim
theorem TrOK.ids {all : List Oper} : ∀ {r : List Oper} {id : Nat} {s : St0 E N} {tr : List (Rc E N)}, TrOK P cfg all r id s tr → (∀ (k : Nat) (t : Rc E N), tr[k]? = some t → id ≤ t.id) ∧
    ∀ (i j:Nat) (o:Oper) (t u:Rc E N),i<j→r[i]?=some o→tr[i]?=some t→tr[j]?=some u→t.id+Aw P o≤u.id
  | [],_,_,[],_=>⟨fun k t h=>by simp at h,fun i j o t u _ h=>by simp at h⟩
  | o::r,id,s,t::tr,h=>by
    obtain ⟨h1,h2⟩:=h.2.2.ids;refine ⟨fun k u hk=>?_,fun i j o' t' u hij ho ht hu=>?_⟩
    · cases k with
      | zero=>simp at hk;subst hk;exact Nat.le_of_eq h.1.symm
      | succ k=>have:=h1 k u (by simpa using hk);omega
    · cases j with
      | zero=>omega
      | succ j =>
        cases i with
        | zero =>
          simp at ho ht;subst ho;subst ht;have:=h1 j u (by simpa using hu);rw [h.1];exact this
        | succ i=>exact h2 i j o' t' u (by omega) (by simpa using ho) (by simpa using ht) (by simpa using hu)
  | [],_,_,_::_,h=>h.elim
  | _::_,_,_,[],h=>h.elim
theorem TG (inl : Inl E N) {all : List Oper} {r : List PV} : ∀ (rest : List Oper) (id : Nat) (s : St0 E N) (ms : List (Nat × Nat)) (k : St0 E N → List (Nat × Nat) → Option (List PV)), DX (O := std E N) P cfg inl all true rest id s ms k = some r →
    ∃ (tr:List (Rc E N)) (id':Nat),TrOK P cfg all rest id s tr∧k { stD (fun _=>true) 0 tr s with st:=id' } (ms++tr.map fun t=>(t.rd,t.wr.mask))=some r∧id≤id'∧∀ (i:Nat) (o:Oper) (t:Rc E N),rest[i]?=some o→tr[i]?=some t→t.id+Aw P o≤id'
  | [],id,s,ms,k,h=>⟨[],id,trivial,by simpa [DX,stD] using h,Nat.le_refl _,fun i o t ho=>by simp at ho⟩
  | o::rest,id,s,ms,k,h=>by
    have shift:∀ (tr:List (Rc E N)) (i j:Nat) (s:St0 E N),stD (fun _=>true) i tr s=stD (fun _=>true) j tr s:=fun tr=>by
      induction tr with
      | nil=>intro i j s;rfl
      | cons t tr ih=>intro i j s;exact ih _ _ _
    have next:∀ (wr:Wr (std E N)) (rd:Nat),OpGood P cfg all o s ⟨id,rd,wr⟩→DX (O:=std E N) P cfg inl all true rest (id+Aw P o) (s.apply wr) (ms++[(rd,wr.mask)]) k=some r→∃ (tr:List (Rc E N)) (id':Nat),TrOK P cfg all (o::rest) id s tr∧k { stD (fun _=>true) 0 tr s with st:=id' } (ms++tr.map fun t=>(t.rd,t.wr.mask))=some r∧id≤id'∧∀ (i:Nat) (o':Oper) (t:Rc E N),(o::rest)[i]?=some o'→tr[i]?=some t→t.id+Aw P o'≤id':=fun wr rd hg hr=>by
      obtain ⟨tr,id',h1,h2,h3,h4⟩:=TG inl rest _ _ _ _ hr;refine ⟨⟨id,rd,wr⟩::tr,id',⟨rfl,hg,h1⟩,?_,by omega,fun i o' t ho ht=>?_⟩
      · simp only [stD];rw [shift _ _ 0];simpa using h2
      · cases i with
        | zero=>simp at ho ht;subst ho;subst ht;exact h3
        | succ i=>exact h4 i o' t (by simpa using ho) (by simpa using ht)
    unfold DX at h
    split at h
    · cases h
    · rename_i as wr rd hrun;obtain ⟨has,h2⟩:=JA h;exact next wr rd (.inl ⟨as,hrun,has⟩) h2
    · rename_i g f fns args dm nx rd hrun;obtain ⟨c,hc,h2⟩:=Option.bind_eq_some_iff.1 h
      split at h2
      · cases h2
      · rename_i wr hn;refine next wr rd (.inr ⟨g,f,fns,args,dm,nx,c,hrun,?_,hn⟩) h2
        cases g with
        | none=>exact hc
        | some b=>cases b<;>exact hc
    · cases h
end
end Go.Px
end
section
namespace Go.Px
section
variable {E:Env} {N:Nat} {P:Program} {cfg:Cfg} {n0 n0':Nz} {nt:Nat} {β β':Nat→Option Nat} {σ σ':Nat→Option (Nat×Nat)} {s s' s2:St0 E N} {a:Act} {w w':World}
theorem P5 : ∀ (ops : List Oper) (acc : List Nat) (k : Nat) (o : Oper), ops[k]? = some o → ∀ j, ((BH ops acc).getD (acc.length + k) 0).testBit j = true →
    ∃ e∈o.after.toList,Region.binds .any e=true∧(j=e.on∨(e.on<acc.length+k∧((BH ops acc).getD e.on 0).testBit j=true))
  | [],acc,k,o,h=>by simp at h
  | x::ops,acc,k,o,h=>by
    have pre:∀ (ops:List Oper) (acc:List Nat) (i:Nat),i<acc.length→(BH ops acc).getD i 0=acc.getD i 0:=fun ops=>by
      induction ops with
      | nil=>intro acc i _;rfl
      | cons y ops ih =>
        intro acc i hi;simp only [BH];rw [ih _ _ (by simp;omega)];simp only [List.getD_eq_getElem?_getD];rw [List.getElem?_append_left hi]
    cases k with
    | succ k =>
      intro j hj;obtain ⟨m,hm⟩:∃ m,BH (x::ops) acc=BH ops (acc++[m]):=⟨_,rfl⟩;rw [hm] at hj ⊢;have hl:(acc++[m]).length+k=acc.length+(k+1):=by simp;omega
      have:=P5 ops (acc++[m]) k o (by simpa using h) j (by rw [hl];exact hj);rw [hl] at this;exact this
    | zero =>
      simp at h;subst h;intro j hj;simp only [BH] at hj ⊢;rw [pre _ _ _ (by simp)] at hj;simp only [List.getD_eq_getElem?_getD,Nat.add_zero] at hj;rw [List.getElem?_append_right (Nat.le_refl _)] at hj;simp only [Nat.sub_self,List.getElem?_cons_zero,Option.getD_some] at hj;have key:∀ (es:List Edge) (m:Nat),(es.foldl (fun s (e:Edge)=>match e.ground with
    | .textOnly _ | .gcOnly _=>s
    | _ => s ||| Cd e.on ||| acc.getD e.on 0) m).testBit j = true → m.testBit j = true ∨ ∃ e ∈ es, Region.binds .any e = true ∧ (j = e.on ∨ (acc.getD e.on 0).testBit j = true) := fun es => by
        induction es with
        | nil=>intro m h;exact .inl h
        | cons e es ih =>
          intro m h;simp only [List.foldl_cons] at h
          rcases ih _ h with h1 | ⟨e',h1,h2⟩
          · have hb : (m.testBit j = true) ∨ (Region.binds .any e = true ∧ (j = e.on ∨ (acc.getD e.on 0).testBit j = true)) := by
              unfold Region.binds
              split at h1
              · exact .inl h1
              · exact .inl h1
              · rename_i hg1 hg2;rw [Nat.testBit_or,Nat.testBit_or,Bool.or_eq_true,Bool.or_eq_true,Cl] at h1;have hbnd : (match e.ground with
                    | .textOnly _=>Region.Mode.any==.text
                    | .gcOnly _=>Region.Mode.any==.gc
                    | _=>true)=true:=by
                  split
                  · rename_i hx;exact (hg1 _ hx).elim
                  · rename_i hx;exact (hg2 _ hx).elim
                  · rfl
                rcases h1 with (h1 | h1) | h1
                · exact .inl h1
                · exact .inr ⟨hbnd,.inl h1.symm⟩
                · exact .inr ⟨hbnd,.inr h1⟩
            rcases hb with h | h
            · exact .inl h
            · exact .inr ⟨e,List.mem_cons_self,h⟩
          · exact .inr ⟨e',List.mem_cons_of_mem _ h1,h2⟩
      rcases key _ 0 hj with h | ⟨e,h1,h2,h3⟩
      · simp at h
      · refine ⟨e,h1,h2,h3.imp (fun h=>h) (fun h=>?_)⟩
        by_cases he:e.on<acc.length
        · exact ⟨by omega,by rw [pre _ _ _ (by simp;omega)];simp only [List.getD_eq_getElem?_getD] at h ⊢;rw [List.getElem?_append_left he];exact h⟩
        · simp only [List.getD_eq_getElem?_getD] at h;rw [List.getElem?_eq_none (by omega)] at h;simp at h
theorem RV:∀ {ops:List Oper} {i:Nat},Nu i ops=true→∀ (k:Nat) (o:Oper),ops[k]?=some o→∀ e∈o.after.toList,Region.binds .any e=true→e.on<i+k
 | [],i,_,k,o,h,_,_,_=>by simp at h
 | x::ops,i,hb,k,o,h,e,he,hbd=>by
  simp only [Nu,Bool.and_eq_true] at hb;cases k with
  | succ k =>
   have:=RV hb.2 k o (by simpa using h) e he hbd;omega
  | zero =>
   simp at h;subst h;have:=List.all_eq_true.1 hb.1 e he;unfold Region.binds at hbd
   split at hbd
   ·simp at hbd
   ·simp at hbd
   ·rename_i h1 h2
    split at this
    ·rename_i hx;exact (h1 _ hx).elim
    ·rename_i hx;exact (h2 _ hx).elim
    ·exact A3.1 this
theorem QM {j bj rj wj:Nat}:∀ {i:Nat} {l:List (Nat×Nat)},HP.inner j bj rj wj i l=true→∀ (k r w:Nat),l[k]?=some (r,w)→i+k<j→bj.testBit (i+k)=true∨(w &&& (rj ||| wj)=0∧wj &&& r=0)
 | i,[],_,k,r,w,h,_=>by simp at h
 | i,(r',w')::l,hi,k,r,w,h,hlt=>by
  simp only [HP.inner] at hi
  split at hi
  ·rename_i hle;have:=Nat.le_of_ble_eq_true hle;omega
  ·split at hi
   ·rename_i hor;cases k with
    | zero =>
     simp at h;obtain ⟨rfl,rfl⟩:=h;simp only [Bool.or_eq_true,Bool.and_eq_true,AA] at hor;simpa using hor
    | succ k =>
     have:=QM hi k r w (by simpa using h) (by omega);rw [show i+(k+1)=i+1+k by omega];exact this
   ·cases hi
theorem Pu {ms:List (Nat×Nat)}:∀ {j:Nat} {bs:List Nat} {l:List (Nat×Nat)},HP.outer ms j bs l=true→∀ (k b r w:Nat),bs[k]?=some b→l[k]?=some (r,w)→HP.inner (j+k) b r w 0 ms=true
 | j,[],l,_,k,b,r,w,h,_=>by simp at h
 | j,b'::bs,[],_,k,b,r,w,_,h=>by simp at h
 | j,b'::bs,(r',w')::l,ho,k,b,r,w,h1,h2=>by
  simp only [HP.outer] at ho
  split at ho
  ·rename_i hi;cases k with
   | zero =>
    simp at h1 h2;obtain ⟨rfl,rfl⟩:=h2;subst h1;exact hi
   | succ k =>
    have:=Pu ho k b r w (by simpa using h1) (by simpa using h2);rw [show j+(k+1)=j+1+k by omega];exact this
  ·cases ho
theorem Q1 {x y p:Nat} (h:x &&& y=0) (hx:x.testBit p=true) (hy:y.testBit p=true):False:=by
 have:=congrArg (fun n=>n.testBit p) h;simp [Nat.testBit_and,hx,hy] at this
def Ke (D:Nat→Bool):Nat→List Oper→List Nat
 | _,[]=>[]
 | i,o::r=>(match D i with | true=>o.dst.toList | false=>[])++Ke D (i+1) r
theorem F0 {D:Nat→Bool} {d:Nat}:∀ {l:List Oper} {i:Nat},d∈Ke D i l↔∃ k o,l[k]?=some o∧D (i+k)=true∧o.dst=some d
 | [],i=>by simp [Ke]
 | x::l,i=>by
  simp only [Ke,List.mem_append,F0 (l:=l)];constructor
  ·rintro (h | ⟨k,o,h1,h2,h3⟩)
   ·cases hD:D i with
    | true=>rw [hD] at h;exact ⟨0,x,rfl,hD,by simpa using h⟩
    | false=>rw [hD] at h;simp at h
   ·exact ⟨k+1,o,by simpa using h1,by rw [show i+(k+1)=i+1+k by omega];exact h2,h3⟩
  ·rintro ⟨k,o,h1,h2,h3⟩
   cases k with
   | zero =>
    simp at h1;subst h1;rw [Nat.add_zero] at h2;rw [h2];exact .inl (by simpa using h3)
   | succ k=>exact .inr ⟨k,o,by simpa using h1,by rw [show i+1+k=i+(k+1) by omega];exact h2,h3⟩
theorem QI:∀ {l:List Oper},(AO l).Nodup→∀ {i j:Nat} {o o':Oper} {d:Nat},l[i]?=some o→l[j]?=some o'→o.dst=some d→o'.dst=some d→i=j
 | [],_,i,j,o,o',d,h,_,_,_=>by simp at h
 | x::l,hn,i,j,o,o',d,hi,hj,ho,ho'=>by
  have hn2:(AO l).Nodup:=by
   simp only [AO] at hn;cases hx:x.dst with
   | none=>rw [hx] at hn;exact hn
   | some y=>rw [hx] at hn;exact (List.nodup_cons.1 hn).2
  have hx:∀ {y},x.dst=some y→y∉AO l:=fun {y} hx=>by
   simp only [AO] at hn;rw [hx] at hn;exact (List.nodup_cons.1 hn).1
  cases i with
  | zero =>
   cases j with
   | zero=>rfl
   | succ j =>
    simp at hi;subst hi;exact (hx ho (Dy (l:=l) (k:=j) (by simpa using hj) ho')).elim
  | succ i =>
   cases j with
   | zero =>
    simp at hj;subst hj;exact (hx ho' (Dy (l:=l) (k:=i) (by simpa using hi) ho)).elim
   | succ j=>exact congrArg (·+1) (QI hn2 (by simpa using hi) (by simpa using hj) ho ho')
structure Inv (P:Program) (n0:Nz) (nt L:Nat) (ops:List Oper) (tr:List (Rc E N)) (β:Nat→Option Nat) (σ:Nat→Option (Nat×Nat)) (s:St0 E N) (a:Act) (w:World) (D:Nat→Bool) (a':Act) (w':World):Prop where
 post:∃ β' σ',Post P n0 nt L (fun n=>n∈AO ops) β σ s a w β' σ' (stD D 0 tr s) a' w'
 gi:GI (stD D 0 tr s) (Ke D 0 ops)
 fresh:∀ n,L≤n→(∀ (i:Nat) (o:Oper) (t:Rc E N),D i=true→ops[i]?=some o→tr[i]?=some t→¬ (t.id≤n∧n<t.id+Aw P o))→Fresh a' (stD D 0 tr s) n
theorem TI {p q:Nat→Bool} (h:∀ x,q x=true→p x=true):∀ l:List Nat,(l.filter q).length≤(l.filter p).length
 | []=>Nat.le_refl _
 | x::l=>by
  have ih:=TI h l;simp only [List.filter_cons];cases hq:q x with
  | true=>rw [h x hq];simp;exact ih
  | false =>
   cases p x with
   | true=>simp;omega
   | false=>simpa using ih
theorem TJ {p q:Nat→Bool} {i:Nat} (hp:p i=true) (hq:q i=false) (h:∀ x,q x=true→p x=true):∀ l:List Nat,i∈l→(l.filter q).length<(l.filter p).length
 | [],hi=>by simp at hi
 | x::l,hi=>by
  simp only [List.filter_cons]
  rcases List.mem_cons.1 hi with rfl | hi
  ·rw [hp,hq];have:=TI h l;simp;omega
  ·have ih:=TJ hp hq h l hi;cases hqx:q x with
   | true=>rw [h x hqx];simp;exact ih
   | false =>
    cases p x with
    | true=>simp;omega
    | false=>simpa using ih
theorem Xa (hΓ : ∀ ci ∈ cfg.gam, A9 P E N ci ∧ A9 P E N { ci with own := false }) {ops : Array Oper} (hnd : (AO ops.toList).Nodup) (hgd : CJ ops.toList 0 (BH ops.toList []) ops.toList = true)
    (hback:Nu 0 ops.toList=true) (hdn:∀ d∈AO ops.toList,d<nt) {Q:Exit→Act→World→Prop} {L:Nat} {tr:List (Rc E N)} (htr:TrOK P cfg ops.toList ops.toList L s tr)
    (hap:HP (BH ops.toList []) (tr.map fun t=>(t.rd,t.wr.mask))=true)
    (hQ:∀ D a' w',(∀ i,i<ops.size→D i=true)→Inv P n0 nt L ops.toList tr β σ s a w D a' w'→Q .normal a' w') :
    ∀ (fuel:Nat) (listed:Array Bool) (a':Act) (w':World),listed.size=ops.size→((List.range ops.size).filter fun i => !listed.getD i false).length≤fuel →
      (∀ i j,listed.getD i false=true→((BH ops.toList []).getD i 0).testBit j=true→listed.getD j false=true) →
      Inv P n0 nt L ops.toList tr β σ s a w (fun i=>listed.getD i false) a' w'→wpAny P .any ops Q fuel listed a' w':=by
  have hlen:=htr.len;have hbs:(BH ops.toList []).length=ops.toList.length:=by
    have:∀ (l:List Oper) (acc:List Nat),(BH l acc).length=acc.length+l.length:=fun l=>by
      induction l with
      | nil=>intro acc;simp [BH]
      | cons x l ih=>intro acc;simp only [BH];rw [ih];simp;omega
    rw [this];simp
  have I4:∀ (i j:Nat) (t u:Rc E N),i<j→tr[i]?=some t→tr[j]?=some u→((BH ops.toList []).getD j 0).testBit i=true∨(t.wr.mask &&& (u.rd ||| u.wr.mask)=0∧u.wr.mask &&& t.rd=0):=fun i j t u hij ht hu=>by
    have hj:j<ops.toList.length:=by rw [← hlen];exact (List.getElem?_eq_some_iff.1 hu).1
    have h1:=Pu (j:=0) hap j ((BH ops.toList []).getD j 0) u.rd u.wr.mask (by
      rw [List.getD_eq_getElem?_getD];rw [List.getElem?_eq_getElem (by rw [hbs];exact hj)];rfl) (by rw [List.getElem?_map,hu];rfl)
    rw [Nat.zero_add] at h1;have:=QM h1 i t.rd t.wr.mask (by rw [List.getElem?_map,ht];rfl) (by omega)
    rwa [Nat.zero_add] at this
  have allDone:∀ (listed:Array Bool),Region.ready .any ops listed=[]→listed.size=ops.size→∀ i,i<ops.size→listed.getD i false=true:=fun listed hr hsz i=>by
    induction i using Nat.strongRecOn with
    | _ i ih =>
      intro hi;cases hl:listed.getD i false with
      | true=>rfl
      | false =>
        have:i∈Region.ready .any ops listed:=by
          rw [mem_ready];refine ⟨?_,ops[i],by simp [hi],fun e he hb=>?_⟩
          · rw [Array.getD_eq_getD_getElem?] at hl ⊢;rw [Array.getElem?_eq_getElem (by rw [hsz];exact hi)] at hl ⊢;simpa using hl
          · have:=RV hback i ops[i] (by simp [hi]) e (by simpa using he) hb;exact ih e.on (by omega) (by omega)
        rw [hr] at this;simp at this
  intro fuel
  induction fuel with
  | zero =>
    intro listed a' w' hsz hf hcl inv;have hall:∀ i,i<ops.size→listed.getD i false=true:=fun i hi=>by
      have h0:((List.range ops.size).filter fun i => !listed.getD i false)=[]:=List.length_eq_zero_iff.1 (by omega);have:=List.filter_eq_nil_iff.1 h0 i (List.mem_range.2 hi);simpa using this
    refine ⟨?_,hQ _ a' w' hall inv⟩;cases hr:Region.ready .any ops listed with
    | nil=>rfl
    | cons x l =>
      have hx:x∈Region.ready .any ops listed:=by rw [hr];exact List.mem_cons_self
      rw [mem_ready] at hx;obtain ⟨h1,o,h2,_⟩:=hx;have hi:=(Array.getElem?_eq_some_iff.1 h2).1;have:=hall x hi;rw [Array.getD_eq_getD_getElem?] at h1 this;rw [Array.getElem?_eq_getElem (by rw [hsz];exact hi)] at h1 this;simp at h1 this;rw [this] at h1;cases h1
  | succ fuel ih =>
    intro listed a' w' hsz hf hcl inv;refine ⟨fun hr=>hQ _ a' w' (allDone listed hr hsz) inv,fun i hi=>?_⟩;rw [mem_ready] at hi;obtain ⟨h1,o,ho,haft⟩:=hi;have hisz:=(Array.getElem?_eq_some_iff.1 ho).1;have hoL:ops.toList[i]?=some o:=by rw [Array.getElem?_toList];exact ho
    have hDi:listed.getD i false=false:=by
      rw [Array.getD_eq_getD_getElem?] at h1 ⊢;rw [Array.getElem?_eq_getElem (by rw [hsz];exact hisz)] at h1 ⊢;simpa using h1
    have htl:i<tr.length:=by rw [hlen];simpa using hisz
    obtain ⟨t,ht⟩:∃ t,tr[i]?=some t:=⟨tr[i],by simp [htl]⟩;have hbef:∀ j,((BH ops.toList []).getD i 0).testBit j=true→listed.getD j false=true:=fun j hj=>by
      obtain ⟨e,he,hb,h3⟩:=P5 ops.toList [] i o hoL j (by simpa using hj);have hd:=haft e (by simpa using he) hb
      rcases h3 with rfl | ⟨_,h3⟩
      · exact hd
      · exact hcl e.on j hd h3
    have hgood:=htr.good (i:=0) i o t hoL ht;rw [Nat.zero_add] at hgood;have hgood2:OpGood P cfg ops.toList o (stD (fun i=>listed.getD i false) 0 tr s) t:=hgood.agree (fun p hp=>JK rfl (fun k u hk hu=>by
      rw [Nat.zero_add]
      rcases Nat.lt_trichotomy k i with hlt | rfl | hgt
      · rcases I4 k i u t hlt hk ht with h | ⟨h,_⟩
        · rw [hbef k h];simpa using hlt
        · exact (Q1 h hu (by rw [Nat.testBit_or,hp];rfl)).elim
      · rw [hDi];simp
      · rcases I4 i k t u hgt ht hk with h | ⟨_,h⟩
        · cases hD:listed.getD k false with
          | false=>simp;omega
          | true=>have:=hcl k i hD h;rw [hDi] at this;cases this
        · exact (Q1 h hu hp).elim))
    have hset:∀ j,(listed.setIfInBounds i true).getD j false=(listed.getD j false||decide (j=i)):=fun j=>by
      by_cases hji:j=i
      · subst hji;rw [Array.getD_eq_getD_getElem?,Array.getElem?_setIfInBounds];simp [hsz,hisz]
      · rw [getD_set_ne _ (fun e=>hji e.symm)];simp [hji]
    have hsame:Same ((stD (fun i=>listed.getD i false) 0 tr s).apply t.wr) (stD (fun j=>(listed.setIfInBounds i true).getD j false) 0 tr s):=fun p=>by
      by_cases hp:t.wr.mask.testBit p=true
      · rw [NU (stD (fun i => listed.getD i false) 0 tr s) (D := fun j => (listed.setIfInBounds i true).getD j false) (i := 0) (s := s) ht (by rw [Nat.zero_add, hset]; simp) hp (fun j u hj hu hup => by
          rw [Nat.zero_add,hset]
          rcases I4 i j t u hj ht hu with h | ⟨h,_⟩
          · cases hD:listed.getD j false with
            | false=>simp;omega
            | true=>have:=hcl j i hD h;rw [hDi] at this;cases this
          · exact (Q1 h hp (by rw [Nat.testBit_or,hup,Bool.or_true])).elim)]
      · rw [HJ hp];refine JK rfl (fun k u hk hu=>?_);rw [Nat.zero_add,hset];have:k≠i:=fun e=>by subst e;rw [ht] at hk;cases hk;exact hp hu
        simp [this]
    obtain ⟨β1,σ1,hpost⟩:=inv.post;have hdst:∀ d,o.dst=some d→d∉Ke (fun i=>listed.getD i false) 0 ops.toList∧d<nt:=fun d hd=>by
      refine ⟨fun hm=>?_,hdn d (Dy hoL hd)⟩;obtain ⟨k,o',h2,h3,h4⟩:=F0.1 hm;have:=QI hnd hoL h2 hd h4;subst this;rw [Nat.zero_add,hDi] at h3;cases h3
    have hgdone:∀ j want d,o.guard=some (j,want)→(ops[j]?).bind (·.dst)=some d→d∈Ke (fun i=>listed.getD i false) 0 ops.toList:=fun j want d h2 h3=>by
      have hb:((BH ops.toList []).getD i 0).testBit j=true:=by
        have:∀ (l:List Oper) (bs:List Nat) (q k:Nat),CJ ops.toList q bs l=true→l[k]?=some o→(bs.getD k 0).testBit j=true:=fun l=>by
          induction l with
          | nil=>intro bs q k _ h;simp at h
          | cons x l ih =>
            intro bs q k hg hk;cases bs with
            | nil=>simp [CJ] at hg
            | cons b bs =>
              simp only [CJ] at hg;cases k with
              | zero =>
                simp at hk;subst hk;rw [h2] at hg;simp only [Bool.and_eq_true] at hg;exact hg.1.1.2
              | succ k =>
                have hg2:CJ ops.toList (q+1) bs l=true:=by
                  split at hg
                  · exact hg
                  · simp only [Bool.and_eq_true] at hg;exact hg.2
                exact ih bs (q+1) k hg2 (by simpa using hk)
        exact this _ _ 0 i hgd hoL
      obtain ⟨x,hx,hxd⟩:=Option.bind_eq_some_iff.1 h3;exact F0.2 ⟨j,x,by rw [Array.getElem?_toList];exact hx,by rw [Nat.zero_add];exact hbef j hb,hxd⟩
    obtain ⟨ids1,ids2⟩:=htr.ids;have hid:∀ n,t.id≤n→n<t.id+Aw P o→Fresh a' (stD (fun i=>listed.getD i false) 0 tr s) n:=fun n hn1 hn2=>inv.fresh n (Nat.le_trans (ids1 i t ht) hn1) (fun k o' u hk ho' hu hc=>by
      rcases Nat.lt_trichotomy k i with hlt | rfl | hgt
      · have:=ids2 k i o' u t hlt ho' hu ht;omega
      · rw [hDi] at hk;cases hk
      · have:=ids2 i k o t u hgt hoL ht hu;omega)
    have next : ∀ a2 w2, After P n0 nt (fun n => t.id ≤ n ∧ n < t.id + Aw P o) β1 σ1 (stD (fun i => listed.getD i false) 0 tr s) a' w' o.dst t.wr a2 w2 → GI ((stD (fun i => listed.getD i false) 0 tr s).apply t.wr) (o.dst.toList ++ Ke (fun i => listed.getD i false) 0 ops.toList) →
        wpAny P .any ops Q fuel (listed.setIfInBounds i true) a2 w2:=fun a2 w2 haf hgi=>by
      refine ih _ a2 w2 (by simp [hsz]) ?_ (fun x y hx hy=>?_) ⟨?_,?_,fun n hn hno=>?_⟩
      · have hlt : ((List.range ops.size).filter fun j => !(listed.setIfInBounds i true).getD j false).length < ((List.range ops.size).filter fun j => !listed.getD j false).length := by
          refine TJ (i:=i) (by simp only [hDi];rfl) (by rw [hset];simp) (fun x hx=>?_) _ (List.mem_range.2 hisz);rw [hset] at hx;cases hlx:listed.getD x false with
          | false=>rfl
          | true=>rw [hlx] at hx;simp at hx
        omega
      · rw [hset] at hx ⊢
        by_cases hxi:x=i
        · subst hxi;rw [hbef y hy];rfl
        · have hx':listed.getD x false=true:=by simpa [hxi] using hx
          rw [hcl x y hx' hy];rfl
      · obtain ⟨β2,σ2,r1,r2,r3,r4,r5,r6,r7⟩:=haf;have p2:Post P n0 nt L (fun n=>n∈AO ops.toList) β1 σ1 (stD (fun i=>listed.getD i false) 0 tr s) a' w' β2 σ2 ((stD (fun i=>listed.getD i false) 0 tr s).apply t.wr) a2 w2 :=
          ⟨r1,r2.weaken (fun n hn=>Nat.le_trans (ids1 i t ht) hn.1),r4,r5,r6,fun n hn=>r7 n (fun e=>hn (Dy hoL e))⟩
        have p3:=(hpost.trans p2 (Nat.le_refl _)).same hsame;exact ⟨β2,σ2,⟨p3.sim,p3.ext,p3.cleanB,p3.cleanH,p3.defers,fun n hn=>p3.tmps n (fun h=>hn (h.elim (fun h=>h) (fun h=>h)))⟩⟩
      · refine (hgi.same hsame).mono (fun d hd=>?_)
        rcases List.mem_append.1 hd with h | h
        · exact F0.2 ⟨i,o,hoL,by rw [Nat.zero_add,hset];simp,by simpa using h⟩
        · obtain ⟨k,o',q1,q2,q3⟩:=F0.1 h;exact F0.2 ⟨k,o',q1,by rw [Nat.zero_add] at q2 ⊢;rw [hset];simp [q2],q3⟩
      · obtain ⟨β2,σ2,r1,r2,r3,r4⟩:=haf;refine (r3 n (inv.fresh n hn (fun k o' u hk=>hno k o' u (by rw [hset,hk];rfl))) (fun hc=>?_)).same hsame;exact hno i o t (by rw [hset];simp) hoL ht hc
    rcases hgood2 with ⟨as,hrun,has⟩ | ⟨g,f,fns,ls,dm,nx,c,hrun,hc,hn⟩
    · exact OP hpost.sim inv.gi hgdone hdst hid ho hrun has next
    · exact Py hΓ hpost.sim inv.gi hgdone hdst hid ho hrun (c := c) (by
        cases g with
        | none=>exact hc
        | some b=>exact hc) hn next
end
end Go.Px
end
section
namespace Go.Px
section
variable {E:Env} {N:Nat} {P:Program} {cfg:Cfg} {n0 n0':Nz} {nt:Nat} {β β':Nat→Option Nat} {σ σ':Nat→Option (Nat×Nat)} {s s' s2:St0 E N} {a:Act} {w w':World}
theorem Sim.grow (hs:Sim P n0 nt β σ s a w) (g:Grow w w'):Sim P n0 nt β σ s a w':=by
 have x:=g.ext P (fun _=>False) β σ s;refine ⟨Nat.le_trans hs.n0le g.size,hs.size,fun n tv hn=>?_,hs.M.grow g,hs.kept.ext x⟩
 rcases hs.T n tv hn with ⟨h1,h2⟩ | h1
 ·exact .inl ⟨h1,x.relAV (fun _ _ h=>h) h2⟩
 ·exact .inr h1
theorem VN {D:Nat→Bool} (h:∀ i,D i=false):∀ (tr:List (Rc E N)) (i:Nat) (s:St0 E N),stD D i tr s=s
 | [],i,s=>rfl
 | t::tr,i,s=>by
  simp only [stD,h i];exact VN h tr _ _
theorem Vf (hmix : P.follows .mixedOrders = true) (inl : Inl E N) (hΓ : ∀ ci ∈ cfg.gam, A9 P E N ci ∧ A9 P E N { ci with own := false }) {ops : Array Oper} {rid : Nat} (hdn : FF nt ops.toList = true) {Q : Exit → Act → World → Prop} {r : List PV}
    {k:St0 E N→Option (List PV)} (h:EM (O:=std E N) P cfg inl ops.toList true s k=some r) (hs:Sim P n0 nt β σ s a w) (wf:WF s)
    (hQ:∀ (s':St0 E N) (β':Nat→Option Nat) (σ':Nat→Option (Nat×Nat)) (a':Act) (w':World),k s'=some r→Post P n0 nt s.st (fun n=>n∈AO ops.toList) β σ s a w β' σ' s' a' w'→WF s'→s.st≤s'.st→Q .normal a' w') :
    (Code.region rid ops true).wp P Q a w:=by
  unfold EM at h
  split at h
  · cases h
  · rename_i hok;simp only [Bool.and_eq_true] at hok;obtain ⟨tr,id',htr,h2,hid,hids⟩:=TG inl _ _ _ _ _ h;simp only [Bool.not_true,Bool.false_or,List.nil_append] at h2
    split at h2
    · cases h2
    rename_i hap;have g:Grow w { w with drawn:=w.drawn+1 }:=⟨rfl,rfl,rfl,Nat.le_refl _,fun _ _=>rfl⟩;have hs0:=hs.grow g;have hD0:∀ i,(Array.replicate ops.size false).getD i false=false:=fun i=>by
      rw [Array.getD_eq_getD_getElem?]
      by_cases hi:i<ops.size
      · rw [Array.getElem?_eq_getElem (by simpa using hi)];simp
      · rw [Array.getElem?_eq_none (by simpa using hi)];rfl
    refine wp_region_any hmix ?_;refine Xa (n0:=n0) (L:=s.st) (β:=β) (σ:=σ) (a:=a) (w:={ w with drawn:=w.drawn+1 }) hΓ (MG hok.1) hok.2.1 hok.2.2 (KP hdn) htr hap (fun D a' w' hall inv=>?_) ops.size _ a _ (by simp) ?_ (fun i j hi=>?_) ?_
    · obtain ⟨β',σ',hp⟩:=inv.post;have hsame:Same (stD D 0 tr s) (stD (fun _=>true) 0 tr s):=fun p=>JK rfl (fun k t hk _=>by
        rw [Nat.zero_add];refine hall k ?_;have:=(List.getElem?_eq_some_iff.1 hk).1;rw [htr.len] at this;simpa using this)
      have hp1:=hp.same hsame;have hp2:Post P n0 nt s.st (fun n=>n∈AO ops.toList) β σ s a w β' σ' (stD (fun _=>true) 0 tr s) a' w' :=
        ⟨hp1.sim,((g.ext P (fun _=>False) β σ s).trans hp1.ext).weaken (fun n h=>h.elim (fun h=>h.elim) (fun h=>h)),hp1.cleanB,hp1.cleanH,hp1.defers,hp1.tmps⟩
      have hf:∀ n,id'≤n→Fresh a' (stD (fun _=>true) 0 tr s) n:=fun n hn=>(inv.fresh n (Nat.le_trans hid hn) (fun i o t _ ho ht hc=>by
        have:=hids i o t ho ht;omega)).same hsame
      have wf':WF ({ stD (fun _=>true) 0 tr s with tm:=C6 (stD (fun _=>true) 0 tr s).tm,st:=id' }:St0 E N):=⟨fun n hn=>⟨⟨(hf n hn).b,(hf n hn).h⟩,fun k tv hk=>by
        obtain ⟨h1,h2⟩:=FD hk;exact (hf n hn).t k tv h1 (fun m b hm=>by rw [h2] at hm;simp at hm)⟩,fun n tv hn=>(FD hn).2⟩
      have sub:Sub (stD (fun _=>true) 0 tr s) ({ stD (fun _=>true) 0 tr s with tm:=C6 (stD (fun _=>true) 0 tr s).tm,st:=id' }:St0 E N):=Sub.of_same (fun _=>rfl) (fun _=>rfl);exact hQ _ β' σ' a' w' h2 ⟨hp2.sim.purged id',(hp2.ext.trans (sub.ext P (fun _=>False) β' σ' w')).weaken (fun n h=>h.elim (fun h=>h) (fun h=>h.elim)),hp2.cleanB,hp2.cleanH,hp2.defers,hp2.tmps⟩ wf' hid
    · have:=List.length_filter_le (fun i => !(Array.replicate ops.size false).getD i false) (List.range ops.size);simpa using this
    · rw [hD0] at hi;cases hi
    · have e:=VN (fun i=>hD0 i) tr 0 s;refine ⟨⟨β,σ,?_⟩,?_,fun n hn _=>?_⟩
      · rw [e];exact ⟨hs0,Ext.refl _ _ _ _ _ _,fun n e h _=>h,fun n e h _=>h,rfl,fun _ _=>rfl⟩
      · rw [e];exact wf.gi.mono (fun x hx=>by simp at hx)
      · rw [e];exact wf.free a n hn
end
end Go.Px
end
section
namespace Go.Px
section
variable {E:Env} {N:Nat} {P:Program} {cfg:Cfg} {n0 n0':Nz} {nt:Nat} {β β':Nat→Option Nat} {σ σ':Nat→Option (Nat×Nat)} {s s' s2:St0 E N} {a:Act} {w w':World}
structure Enc (s:St0 E N) (keep used used':List Nat) (os:List (Option Nat)) (fr:List (Nat×Option (HEnt (std E N)))):Prop where
 up:∀ n∈used,n∈used'
 src:∀ n,some n∈os→n∉used∧n∈used'∧n∉keep∧∃ h,s.getH n=some h∧h.frozen=false
 nd:(os.filterMap id).Nodup
 ok:FrOK s fr
 fz:∀ y∈fr,∃ h,s.getH y.1=some h∧(h.frozen=true∨(y.1∉used∧y.1∈used'∧y.1∉keep))
 ap:∀ y∈fr,some y.1∉os
theorem Enc.nil {keep used:List Nat}:Enc s keep used used [] [] :=
 ⟨fun _ h=>h,fun _ h=>by simp at h,List.nodup_nil,fun _ _ h=>by simp at h,fun _ h=>by simp at h,fun _ h=>by simp at h⟩
theorem Enc.append {keep used u u' : List Nat} {os os' : List (Option Nat)} {fr fr' : List (Nat × Option (HEnt (std E N)))} (h : Enc s keep used u os fr) (k : Enc s keep u u' os' fr') :
    Enc s keep used u' (os++os') (fr++fr') where
  up n hn:=k.up n (h.up n hn)
  src n hn:=by
    rcases List.mem_append.1 hn with hn | hn
    · obtain ⟨a1,a2,a3⟩:=h.src n hn;exact ⟨a1,k.up n a2,a3⟩
    · obtain ⟨a1,a2,a3⟩:=k.src n hn;exact ⟨fun hm=>a1 (h.up n hm),a2,a3⟩
  nd:=by
    rw [List.filterMap_append];refine List.nodup_append.2 ⟨h.nd,k.nd,fun x hx y hy e=>?_⟩;subst e;have h1:some x∈os:=by simpa using hx
    have h2:some x∈os':=by simpa using hy
    exact (k.src x h2).1 (h.src x h1).2.1
  ok:=h.ok.append k.ok
  fz y hy:=by
    rcases List.mem_append.1 hy with hy | hy
    · obtain ⟨e,a1,a2⟩:=h.fz y hy;exact ⟨e,a1,a2.imp (fun h=>h) (fun h=>⟨h.1,k.up _ h.2.1,h.2.2⟩)⟩
    · obtain ⟨e,a1,a2⟩:=k.fz y hy;exact ⟨e,a1,a2.imp (fun h=>h) (fun g=>⟨fun hm=>g.1 (h.up _ hm),g.2⟩)⟩
  ap y hy hm:=by
    rcases List.mem_append.1 hy with hy | hy<;>rcases List.mem_append.1 hm with hm | hm
    · exact h.ap y hy hm
    · obtain ⟨e,a1,a2⟩:=h.fz y hy;obtain ⟨b1,b2,b3,e',b4,b5⟩:=k.src _ hm;rw [a1] at b4;cases b4
      rcases a2 with a2 | a2
      · rw [a2] at b5;cases b5
      · exact b1 a2.2.1
    · obtain ⟨e,a1,a2⟩:=k.fz y hy;obtain ⟨b1,b2,b3,e',b4,b5⟩:=h.src _ hm;rw [a1] at b4;cases b4
      rcases a2 with a2 | a2
      · rw [a2] at b5;cases b5
      · exact a2.1 b2
    · exact k.ap y hy hm
def Holds (cv:List PV) (j:Nat) (ls:List AR):Prop:=∀ (i:Nat) (l:AR),ls[i]?=some l→AF cv (j+i)=l.pv
theorem Holds.left {cv:List PV} {j:Nat} {a b:List AR} (h:Holds cv j (a++b)):Holds cv j a:=fun i l hl=>h i l (by
 rw [List.getElem?_append_left (List.getElem?_eq_some_iff.1 hl).1];exact hl)
theorem Holds.right {cv:List PV} {j:Nat} {a b:List AR} (h:Holds cv j (a++b)):Holds cv (j+a.length) b:=fun i l hl=>by
 have:=h (a.length+i) l (by rw [List.getElem?_append_right (by omega)];simpa using hl);rw [Nat.add_assoc];exact this
abbrev BB (E:Env) (N:Nat) (cv:List PV) (j q:Nat) (sc:SlotC):AC0 E N×List (Nat×HEnt (std E N)):=D2 (O:=std E N) cv j q sc
abbrev AH (E:Env) (N:Nat) (cv:List PV) (j q:Nat) (scs:List SlotC):List (AC0 E N)×List (Nat×HEnt (std E N)):=FY (O:=std E N) cv j q scs
theorem QV (m : Mem P n0 β σ s w) {c : AC0 E N} {v : Value} {t : TypeId} {r : Rows} {fr : List (Nat × Option (HEnt (std E N)))} {nw nw' : Bool} (hc : RelC P n0 β σ s w c v) (ht : Av (AE P t) c = true)
    {k':Nat} (h:RM.run s (SW (O:=std E N) c) 0=.ok ((.rows r,fr,nw),k')) (hn:nw'=true→nw=true) {sf:St0 E N} (hsub:Sub s sf) (hf:Frz sf fr):Rep P w (StB n0 β σ sf nw') t v (.rows r):=by
  obtain ⟨_,_,h3⟩:=PM m hc h;exact h3 t sf ht hsub (fun x hx h hh=>by obtain ⟨h',e1,e2⟩:=hf x hx;rw [e1] at hh;cases hh;exact e2) (fun x hx=>by obtain ⟨h',e1,_⟩:=hf x hx;exact ⟨h',e1⟩) nw' hn
theorem YK (m : Mem P n0 β σ s w) {keep used u : List Nat} {sc : SlotC} {c : AC0 E N} {l : AR} (h : Fq (O := std E N) s keep used sc c = .ok (l, u)) {v : Value} (hc : RelC P n0 β σ s w c v)
    {cv:List PV} {j:Nat} (hl:AF cv j=l.pv) (q:Nat) :
    ∃ (os:List (Option Nat)) (fr:List (Nat×Option (HEnt (std E N)))),Enc s keep used u os fr∧Ents P s q os (BB E N cv j q sc).2∧(∀ p∈(BB E N cv j q sc).2,p.2.dirty=true) ∧
      (∀ n∈(BB E N cv j q sc).1.names,q≤n∧n<q+(BB E N cv j q sc).2.length) ∧
      ∀ (sf:St0 E N),Sub s sf→Frz sf fr→∀ (σ2:Nat→Option (Nat×Nat)) (S:St0 E N),(∀ nw b,StB n0 β σ sf nw b→StB n0 β σ2 S nw b)→Wired σ σ2 S q os (BB E N cv j q sc).2→RelC P n0 β σ2 S w (BB E N cv j q sc).1 v:=by
  cases sc with
  | int k =>
    cases c<;>simp only [Fq] at h<;>try cases h
    rename_i k' i
    split at h<;>cases h
    rename_i hk;have:=Df.1 hk;subst this;refine ⟨[],[],Enc.nil,trivial,fun p hp=>by simp [BB,D2] at hp,fun n hn=>by simp [BB,D2,AC.names] at hn,fun sf _ _ σ2 S _ _=>?_⟩;have hv:v=.int k i:=hc;show v=.int k (pvI (AF cv j));rw [hl];exact hv
  | bool =>
    cases c<;>simp only [Fq] at h<;>try cases h
    rename_i b;refine ⟨[],[],Enc.nil,trivial,fun p hp=>by simp [BB,D2] at hp,fun n hn=>by simp [BB,D2,AC.names] at hn,fun sf _ _ σ2 S _ _=>?_⟩;have hv:v=.bool b:=hc;show v=.bool (pvB (AF cv j));rw [hl];exact hv
  | str =>
    cases c<;>simp only [Fq] at h<;>try cases h
    rename_i b;refine ⟨[],[],Enc.nil,trivial,fun p hp=>by simp [BB,D2] at hp,fun n hn=>by simp [BB,D2,AC.names] at hn,fun sf _ _ σ2 S _ _=>?_⟩;have hv:v=.string b:=hc;show v=.string (pvS (AF cv j));rw [hl];exact hv
  | own e nw =>
    have one:∀ n∈(BB E N cv j q (.own e nw)).1.names,q≤n∧n<q+(BB E N cv j q (.own e nw)).2.length:=fun n hn=>by
      simp [BB,D2,AC.names] at hn;subst hn;simp [BB,D2]
    have dt:∀ p∈(BB E N cv j q (.own e nw)).2,p.2.dirty=true:=fun p hp=>by simp [BB,D2] at hp;subst hp;rfl
    cases c<;>simp only [Fq] at h<;>try cases h
    · rename_i e'
      split at h<;>cases h
      rename_i he;have:=AA.1 he;subst this;obtain ⟨t0,ts0,ht0,hts0,av,hv⟩:=hc;have hl':pvL (AF cv j)=[]:=by rw [hl];rfl
      refine ⟨[none],[],⟨fun _ h=>h,fun n hn=>by simp at hn,List.nodup_nil,fun _ _ h=>by simp at h,fun _ h=>by simp at h,fun _ h=>by simp at h⟩,⟨rfl,rfl,⟨hl',t0,ts0,ht0,hts0⟩,trivial⟩,dt,one,fun sf _ _ σ2 S _ hw=>⟨⟨_,_,_,hv⟩,fun h3 hh3=>?_⟩⟩;rw [hw.2.1] at hh3;cases hh3;exact ⟨rfl,.inr ⟨hw.1,by show (pvL (AF cv j)).length=0;rw [hl'];rfl,av,hv⟩⟩
    · rename_i e' id;cases hh:s.getH id with
      | none=>rw [hh] at h;cases h
      | some en =>
        rw [hh] at h;simp only at h
        split at h<;>cases h
        rename_i hg;simp only [Bool.and_eq_true,Bool.not_eq_true',Bool.or_eq_true] at hg;obtain ⟨⟨⟨⟨⟨g1,g2⟩,g3⟩,g4⟩,g5⟩,g6⟩:=hg;have e1:=AA.1 g1;have e2:=AA.1 g2;subst e1;have nu:id∉used:=fun hm=>by rw [BW.2 hm] at g5;cases g5
        have nk:id∉keep:=fun hm=>by rw [BW.2 hm] at g6;cases g6
        have hl':pvL (AF cv j)=en.l:=by rw [hl];rfl
        refine ⟨[some id],[],⟨fun _ h=>List.mem_cons_of_mem _ h,fun n hn=>?_,by simp,fun _ _ h=>by simp at h,fun _ h=>by simp at h,fun _ h=>by simp at h⟩,⟨rfl,rfl,⟨en,hh,e2,hl',g3,fun h=>?_⟩,trivial⟩,dt,one,fun sf _ _ σ2 S _ hw=>?_⟩
        · simp at hn;subst hn;exact ⟨nu,List.mem_cons_self,nk,en,hh,g3⟩
        · have h':nw=true:=h
          rcases g4 with g4 | g4
          · exact g4
          · rw [h'] at g4;cases g4
        · exact S9 (h':={ e:=e,frozen:=false,nw:=nw,l:=pvL (AF cv j),dirty:=true }) hc hh e2 hl' hw.1 hw.2.1
  | imm e nw =>
    have one:∀ n∈(BB E N cv j q (.imm e nw)).1.names,q≤n∧n<q+(BB E N cv j q (.imm e nw)).2.length:=fun n hn=>by
      simp [BB,D2,AC.names] at hn
    have dt:∀ p∈(BB E N cv j q (.imm e nw)).2,p.2.dirty=true:=fun p hp=>by simp [BB,D2] at hp
    cases c<;>simp only [Fq] at h<;>try cases h
    · rename_i e'
      split at h<;>cases h
      rename_i he;have:=AA.1 he;subst this;have hl':pvL (AF cv j)=[]:=by rw [hl];rfl
      refine ⟨[],[],Enc.nil,trivial,dt,one,fun sf hsub hf σ2 S hst _=>?_⟩;have hc0:=hc;obtain ⟨t0,ts0,ht0,hts0,av,hv⟩:=hc0;refine ⟨t0,ht0,?_⟩;show Rep P w _ t0 v (.rows (pvL (AF cv j)));rw [hl'];exact (QV m (nw':=nw) hc (t:=t0) (by rw [ht0];exact he) rfl (fun _=>rfl) hsub hf).st (hst nw)
    · rename_i e' nw' r
      split at h<;>cases h
      rename_i hg;simp only [Bool.and_eq_true,Bool.not_eq_true',Bool.or_eq_true] at hg;have:=AA.1 hg.1;subst this;have hl':pvL (AF cv j)=r:=by rw [hl];rfl
      refine ⟨[],[],Enc.nil,trivial,dt,one,fun sf hsub hf σ2 S hst _=>?_⟩;have hc0:=hc;obtain ⟨t0,ht0,hv⟩:=hc0;refine ⟨t0,ht0,?_⟩;show Rep P w _ t0 v (.rows (pvL (AF cv j)));rw [hl'];exact (QV m (nw':=nw) hc (t:=t0) (by rw [ht0];exact hg.1) rfl (fun h=>by
        rcases hg.2 with h1 | h1
        · exact h1
        · rw [h] at h1;cases h1) hsub hf).st (hst nw)
    · rename_i e' id;cases hh:s.getH id with
      | none=>rw [hh] at h;cases h
      | some en =>
        rw [hh] at h;simp only at h
        split at h<;>cases h
        rename_i hg;simp only [Bool.and_eq_true,Bool.not_eq_true',Bool.or_eq_true] at hg;obtain ⟨⟨⟨⟨g1,g2⟩,g3⟩,g4⟩,g5⟩:=hg;have e1:=AA.1 g1;have e2:=AA.1 g2;subst e1;have nu:id∉used:=fun hm=>by rw [BW.2 hm] at g5;cases g5
        have hl':pvL (AF cv j)=en.l:=by rw [hl];rfl
        refine ⟨[],[(id,some { en with frozen:=true,dirty:=true })],⟨fun n hn=>?_,fun n hn=>by simp at hn,List.nodup_nil,fun n v hm=>?_,fun y hy=>?_,fun y hy=>by simp⟩,trivial,dt,one,fun sf hsub hf σ2 S hst _=>?_⟩
        · cases en.frozen with
          | true=>exact hn
          | false=>exact List.mem_cons_of_mem _ hn
        · simp at hm;obtain ⟨rfl,rfl⟩:=hm;exact ⟨en,hh,rfl⟩
        · simp at hy;subst hy;refine ⟨en,hh,?_⟩;cases hz:en.frozen with
          | true=>exact .inl rfl
          | false =>
            refine .inr ⟨nu,List.mem_cons_self,fun hm=>?_⟩;rw [hz,BW.2 hm] at g4;simp at g4
        · obtain ⟨t0,ts0,ht0,_⟩:=m.H id en hh;refine ⟨t0,by rw [ht0,← e2],?_⟩;show Rep P w _ t0 v (.rows (pvL (AF cv j)));rw [hl'];exact (QV m (nw':=nw) (nw:=en.nw) (fr:=[(id,some { en with frozen:=true,dirty:=true })]) hc (t:=t0) (by rw [ht0];exact AA.2 e2.symm) (by
            show RM.run s (RM.h id _) 0=_;simp only [RM.run];rw [hh];rfl) (fun h=>by
            rcases g3 with h1 | h1
            · exact h1
            · rw [h] at h1;cases h1) hsub hf).st (hst nw)
end
end Go.Px
end
