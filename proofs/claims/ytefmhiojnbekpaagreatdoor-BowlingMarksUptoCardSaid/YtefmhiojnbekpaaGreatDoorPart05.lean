/- Part 5. -/
import Derived.Test.YtefmhiojnbekpaaGreatDoorPart04
import Derived.Test.YtefmhiojnbekpaaGreatDoorPart03
set_option linter.unusedVariables false
set_option linter.unusedSimpArgs false
section
namespace Go.Px
section
variable {E:Env} {N:Nat} {P:Program} {n0:Nz} {nt:Nat} {β:Nat→Option Nat} {σ:Nat→Option (Nat×Nat)} {s s':St0 E N} {a:Act} {w w':World}
theorem aF (hs : Sim P n0 nt β σ s a w) {e : TypeId} {q : Nat} {v : Value} {en : HEnt (std E N)} (hc : RelC P n0 β σ s w (.mp e q) v) (hh : s.getH q = some en) :
    en.e=e∧∃ n r,v=.map (some r)∧σ q=some (r,0)∧e=Ck P n∧Nb w n r en.l∧(∀ x∈en.l,x.length=n+1)∧Old n0 en.nw r:=by
  obtain ⟨⟨hno,_⟩,hk⟩:=hc;obtain ⟨he,r,hsq,hv⟩:=hk en hh
  rcases hs.M.H q en hh with ⟨t,ts,ht,_⟩ | ⟨n,r',a1,a2,a3,a4,a5,a6⟩
  · exact (hno t (by rw [← he];exact ht)).elim
  · rw [hsq] at a3;cases a3;exact ⟨he,n,r,hv,hsq,he.symm.trans a1,a4,a5,a6⟩
theorem cV (hs : Sim P n0 nt β σ s a w) {q n r : Nat} {en : HEnt (std E N)} (hh : s.getH q = some en) (hfz : en.frozen = false) (hno : ∀ t, AK P t ≠ .sl en.e) (hm : en.e = Ck P n) (hsq : σ q = some (r, 0)) (hat : Nb w n r en.l) (hold : Old n0 en.nw r)
    {L:Rows} (hL:∀ x∈L,x.length=n+1) {wr:Wr (std E N)} (ht0:wr.ts=[]) (hb:wr.bs=[]) (hws:wr.hs=[(q,some { en with l:=L,dirty:=true })]) :
    Mem P n0 β σ (s.apply wr) (World.withMap w n r L)∧Ext P (fun _=>False) β σ s w β σ (s.apply wr) (World.withMap w n r L)∧Tidy a (fun _=>False) s (s.apply wr):=by
  refine WO hs.M hh hfz ht0 hb hws rfl hfz rfl (fun ⟨t,ht⟩=>(hno t ht).elim) rfl rfl rfl ?_ ?_ (fun x=>?_)
  · show (w.heap.setIfInBounds r _).size=_;simp
  · intro b hb2;have hne:b≠r:=fun e=>hb2 0 (by rw [e];exact hsq)
    exact (MapKept.heap_set hat).2 b hne
  · exact .inr ⟨n,r,hm,hno,hsq,kE hat,hL,hold⟩
theorem dM:∀ {cs:List (AC0 E N)} {vs:List Value} {ks:List Int},PX (O:=std E N) cs=some ks→RelCs P n0 β σ s w cs vs→vs=ks.map (Value.int .i64)
 | [],[],ks,h,_=>by cases h;rfl
 | c::cs,v::vs,ks,h,hr=>by
  unfold PX at h
  split at h
  ·rename_i h0;cases h0
  ·rename_i i r h0;cases h0
   split at h
   ·rename_i l hl;cases h;have hv:v=.int .i64 i:=hr.1;rw [dM hl hr.2,hv];rfl
   ·cases h
  ·cases h
 | [],_::_,_,_,h=>h.elim
 | _::_,[],_,_,h=>h.elim
theorem Mt {n k:Nat} (h:Ck P n=Ck P k):n=k:=by
 exact Nat.add_left_cancel h
theorem YX (l:Rows) (ks:List Int) (z:Int):OY (std E N) l ks z=C9 ks.length ks z l:=rfl
theorem YO (l:Rows) (ks:List Int):SC (std E N) l ks=Bk ks.length ks l:=rfl
theorem bO {kv:Val (std E N)} {v:Value} {ks:List Int} (h:RelVal P n0 β σ s w kv v) (hk:PX (O:=std E N) kv.cs=some ks) (ha:kv.agg=true):v=C7 ks:=by
 obtain ⟨h1,h2⟩:=h;rw [ha] at h2;obtain ⟨cs,rfl⟩:=h2;have:=dM hk h1;unfold C7;congr 1;apply Array.ext';simpa [Value.cells] using this
theorem qo (hs : Sim P n0 nt β σ s a w) {ctx : List (Nat × Bool)} {id : Nat} {o : Oper} {T e : TypeId} {m k v : Operand} (hop : o.op = .mapUpdate T m k v) (hd : o.dst = none)
    {q:Nat} {en:HEnt (std E N)} {kv:Val (std E N)} {ks:List Int} {z:Int} (hc:RelC P n0 β σ s w (.mp e q) (a.eval m)) (hkv:RelVal P n0 β σ s w kv (a.eval k)) (hkc:PX (O:=std E N) kv.cs=some ks) (hag:kv.agg=true)
    (hx:a.eval v=.int .i64 z) (hh:s.getH q=some en) (hfz:en.frozen=false) (he:e=Ck P ks.length) (hmb:MT P T ks.length=true) :
    ∃ w',(execOp a.eval o).run P w=.ok .skip w'∧Mem P n0 β σ (s.apply { hs:=[(q,some { en with l:=OY (std E N) en.l ks z,dirty:=true })] }) w' ∧
      Ext P (fun _=>False) β σ s w β σ (s.apply { hs:=[(q,some { en with l:=OY (std E N) en.l ks z,dirty:=true })] }) w'∧Tidy a (fun _=>False) s (s.apply { hs:=[(q,some { en with l:=OY (std E N) en.l ks z,dirty:=true })] }):=by
  obtain ⟨he1,n,r,hv,hsq,hm,hat,hr,hold⟩:=aF hs hc hh;have hn:=Mt (hm.symm.trans he);subst hn;have hk:=bO hkv hkc hag;have hno:∀ t,AK P t≠.sl en.e:=by rw [he1];exact hc.1.1
  rw [YX];obtain ⟨q1,q2,q3⟩:=cV (a:=a) (wr:={ hs:=[(q,some { en with l:=C9 ks.length ks z en.l,dirty:=true })] }) hs hh hfz hno (he1.trans hm) hsq hat hold (Rw rfl hr) rfl rfl rfl;have run:=Zx (P:=P) hmb rfl hr z hat;refine ⟨_,?_,q1,q2,q3⟩;simp [execOp,hop,hv,hk,hx,run,Result.andThen]
theorem qX (hs : Sim P n0 nt β σ s a w) {T e : TypeId} {m k : Operand} {q : Nat} {en : HEnt (std E N)} {kv : Val (std E N)} {ks : List Int} (hc : RelC P n0 β σ s w (.mp e q) (a.eval m)) (hkv : RelVal P n0 β σ s w kv (a.eval k)) (hkc : PX (O := std E N) kv.cs = some ks) (hag : kv.agg = true)
    (hh:s.getH q=some en) (he:e=Ck P ks.length) (hmb:MT P T ks.length=true) :
    (Instr.lookup T (a.eval m) (a.eval k) false).run P w=.ok (.int .i64 (SC (std E N) en.l ks)) w:=by
  obtain ⟨he1,n,r,hv,hsq,hm,hat,hr,hold⟩:=aF hs hc hh;have hn:=Mt (hm.symm.trans he);subst hn;rw [bO hkv hkc hag,hv,Zc hmb rfl hr hat];rfl
theorem ql (hs : Sim P n0 nt β σ s a w) {o : Oper} {T e : TypeId} {m k : Operand} (hop : o.op = .mapEntry T m k)
    {q:Nat} {en:HEnt (std E N)} {kv:Val (std E N)} {ks:List Int} (hc:RelC P n0 β σ s w (.mp e q) (a.eval m)) (hkv:RelVal P n0 β σ s w kv (a.eval k)) (hkc:PX (O:=std E N) kv.cs=some ks) (hag:kv.agg=true)
    (hh:s.getH q=some en) (hfz:en.frozen=false) (he:e=Ck P ks.length) (hmb:MT P T ks.length=true) :
    let g:=SC (std E N) en.l ks
    let wr:Wr (std E N):={ hs:=[(q,some { en with l:=OY (std E N) en.l ks g,dirty:=true })] }
    ∃ w',(execOp a.eval o).run P w=.ok (.value (.tuple #[.int .i64 g,.int .i64 ((std E N).lkey ks.length en.l ks)])) w'∧Mem P n0 β σ (s.apply wr) w' ∧
      Ext P (fun _=>False) β σ s w β σ (s.apply wr) w'∧Tidy a (fun _=>False) s (s.apply wr):=by
  obtain ⟨he1,n,r,hv,hsq,hm,hat,hr,hold⟩:=aF hs hc hh;have hn:=Mt (hm.symm.trans he);subst hn;have hk:=bO hkv hkc hag;have hno:∀ t,AK P t≠.sl en.e:=by rw [he1];exact hc.1.1
  intro g wr;have eg:g=Bk ks.length ks en.l:=rfl;have run:=bh (P:=P) hmb rfl hr hat;have ew:wr={ hs:=[(q,some { en with l:=C9 ks.length ks (Bk ks.length ks en.l) en.l,dirty:=true })] }:=by
    show ({ hs:=[(q,some { en with l:=OY (std E N) en.l ks g,dirty:=true })] }:Wr (std E N))=_;rw [YX,eg]
  rw [ew,eg];obtain ⟨q1,q2,q3⟩:=cV (a:=a) (wr:={ hs:=[(q,some { en with l:=C9 ks.length ks (Bk ks.length ks en.l) en.l,dirty:=true })] }) hs hh hfz hno (he1.trans hm) hsq hat hold (Rw rfl hr) rfl rfl rfl;refine ⟨_,?_,q1,q2,q3⟩;simp [execOp,hop,hv,hk,run,Result.andThen]
theorem rQ (hs : Sim P n0 nt β σ s a w) {o : Oper} {T e : TypeId} {m st v : Operand} (hop : o.op = .entryStore T m st v)
    {q n:Nat} {en:HEnt (std E N)} {i z:Int} (hc:RelC P n0 β σ s w (.mp e q) (a.eval m)) (hi:a.eval st=.int .i64 i) (hx:a.eval v=.int .i64 z)
    (hh:s.getH q=some en) (hfz:en.frozen=false) (he:e=Ck P n) (hmb:MT P T n=true) (hin:iIn i (en.l.length:Int)=true) :
    let wr:Wr (std E N):={ hs:=[(q,some { en with l:=(std E N).lset en.l i n [.int z],dirty:=true })] }
    ∃ w',(execOp a.eval o).run P w=.ok .skip w'∧Mem P n0 β σ (s.apply wr) w' ∧
      Ext P (fun _=>False) β σ s w β σ (s.apply wr) w'∧Tidy a (fun _=>False) s (s.apply wr):=by
  obtain ⟨he1,n',r,hv,hsq,hm,hat,hr,hold⟩:=aF hs hc hh;have hn:=Mt (hm.symm.trans he);subst hn;have hno:∀ t,AK P t≠.sl en.e:=by rw [he1];exact hc.1.1
  simp only [iIn,decide_eq_true_eq] at hin;obtain ⟨j,rfl⟩:∃ j:Nat,i=j:=⟨i.toNat,by omega⟩;have hj:j<en.l.length:=by omega
  have el:(std E N).lset en.l (j:Int) n' [.int z]=en.l.set j (Fy n' z (AB en.l j)):=by
    show en.l.set (j:Int).toNat (A6 (AB en.l (j:Int).toNat) n' [PV.int z])=_;rw [Int.toNat_natCast];rfl
  intro wr;have ew:wr={ hs:=[(q,some { en with l:=en.l.set j (Fy n' z (AB en.l j)),dirty:=true })] }:=by
    show ({ hs:=[(q,some { en with l:=(std E N).lset en.l (j:Int) n' [.int z],dirty:=true })] }:Wr (std E N))=_;rw [el]
  have hL:∀ x∈en.l.set j (Fy n' z (AB en.l j)),x.length=n'+1:=fun x hx=>by
    rcases List.mem_or_eq_of_mem_set hx with hx | rfl
    · exact hr x hx
    · rw [gF];refine hr _ ?_;unfold AB;rw [List.getD_eq_getElem?_getD,List.getElem?_eq_getElem hj];exact List.getElem_mem hj
  have run:=bc (P:=P) (T:=T) hr hj z hat;rw [ew];obtain ⟨q1,q2,q3⟩:=cV (a:=a) (wr:={ hs:=[(q,some { en with l:=en.l.set j (Fy n' z (AB en.l j)),dirty:=true })] }) hs hh hfz hno (he1.trans hm) hsq hat hold hL rfl rfl rfl;refine ⟨_,?_,q1,q2,q3⟩;simp [execOp,hop,hv,hi,hx,run,Result.andThen]
theorem pz (m : Mem P n0 β σ s w) {id : Nat} (hf : Fresh a s id) {fr : List (Nat × Option (HEnt (std E N)))} (hfr : PreOK s fr) {h : HEnt (std E N)} {wr : Wr (std E N)}
    (ht0:wr.ts=[]) (hb:wr.bs=[]) (hh:wr.hs=fr++[(id,some h)]) (hd:h.dirty=true) (hz:h.frozen=false) {w1:World} (g:Grow w w1) {cap:Nat} {ob:Obj}
    (hrel:Ext P (·=id) β σ s w β (upd σ id (some (w1.heap.size,cap))) (s.apply wr) (w1.alloc ob)→RelH P n0 β (upd σ id (some (w1.heap.size,cap))) (s.apply wr) (w1.alloc ob) id h) :
    Mem P n0 β (upd σ id (some (w1.heap.size,cap))) (s.apply wr) (w1.alloc ob) ∧
      Ext P (·=id) β σ s w β (upd σ id (some (w1.heap.size,cap))) (s.apply wr) (w1.alloc ob)∧Tidy a (·=id) s (s.apply wr) ∧
      (s.apply wr).getH id=some h:=by
  have gB:=fun n=>State.getB_apply0 s wr hb n
  have gs:∀ n,(s.apply wr).getH n=if n=id then some h else (s.apply { hs:=fr }).getH n:=fun n=>by
    unfold State.apply State.getH;simp only [hh,D1,A0];exact A4 _ _ _ _
  have old:∀ n e,s.getH n=some e→n≠id:=fun n e he h=>(hf.h n e he h.symm)
  have fget:∀ n h',n≠id→(s.apply wr).getH n=some h'→∃ h0,s.getH n=some h0∧(h'=h0∨h'={ h0 with frozen:=true,dirty:=true }):=fun n h' hn he=>by
    rw [gs,if_neg hn] at he;exact hfr.get rfl n h' he
  have gg:=g.trans (Grow.alloc w1 ob);have x:Ext P (·=id) β σ s w β (upd σ id (some (w1.heap.size,cap))) (s.apply wr) (w1.alloc ob):=by
    refine ⟨gg.os,gg.tape,gg.output,gg.size,fun b hb _=>gg.old b hb,fun b hb=>?_,fun b e he hn=>?_,fun n e he hn=>?_⟩
    · rcases hb with ⟨n,e,he,hb⟩ | ⟨n,e,cap',he,hfz,hb⟩
      · rw [gB] at he;exact .inl (.inl ⟨n,e,he,hb⟩)
      · by_cases hid:n=id
        · rw [hid,A3] at hb;cases hb;exact .inr g.size
        · obtain ⟨h0,hh0,h1⟩:=fget n e hid he;rw [A1 _ _ hid] at hb
          rcases h1 with rfl | rfl
          · exact .inl (.inr ⟨n,e,cap',hh0,hfz,hb⟩)
          · cases hfz
    · rw [gB] at he;exact ⟨⟨e,he⟩,rfl⟩
    · obtain ⟨h0,hh0,h1⟩:=fget n e hn he;refine ⟨h0,hh0,A1 _ _ hn,?_⟩
      rcases h1 with rfl | rfl<;>exact ⟨rfl,fun _=>rfl⟩
  have hget:(s.apply wr).getH id=some h:=by rw [gs,if_pos rfl]
  refine ⟨Pm (id:=id) m x (fun n e he=>?_) (fun n e blk he hb=>?_) (fun n h' hn he=>?_) (fun n h' blk cap' hn he hs=>?_) (fun h' he=>?_) (fun blk cap' hs=>?_),x,⟨fun n hfn hn=>?_,fun n e he hd'=>?_,fun n e he hd'=>?_⟩,hget⟩
  · rw [gB] at he;exact ⟨e,he,rfl,fun k hk h=>(hf.b n e he).2 (h▸hk)⟩
  · rw [gB] at he;exact gg.old blk (m.ltB he hb)
  · obtain ⟨h0,hh0,h1⟩:=fget n h' hn he;refine ⟨h0,hh0,?_⟩
    rcases h1 with rfl | rfl
    · exact ⟨rfl,rfl,rfl,fun h=>h,A1 _ _ hn⟩
    · exact ⟨rfl,rfl,rfl,(fun h=>by cases h),A1 _ _ hn⟩
  · obtain ⟨h0,hh0,_⟩:=fget n h' hn he;exact gg.old blk (m.ltH hh0 hs)
  · rw [hget] at he;cases he;exact hrel x
  · rw [A3] at hs;cases hs;refine ⟨fun n e he hb=>?_,fun n h' cap'' hn he hs=>?_⟩
    · rw [gB] at he;have:=m.ltB he hb;have:=g.size;omega
    · obtain ⟨h0,hh0,_⟩:=fget n h' hn he;have:=m.ltH hh0 hs;have:=g.size;omega
  · refine ⟨fun k tv hk=>?_,fun k e he=>?_,fun k e he=>?_⟩
    · rw [State.getT_apply0 s wr ht0] at hk;exact hfn.t k tv hk
    · rw [gB] at he;exact hfn.b k e he
    · by_cases hk:k=id
      · exact fun h=>hn (h.trans hk)
      · obtain ⟨h0,hh0,_⟩:=fget k e hk he;exact hfn.h k h0 hh0
  · rw [gB] at he;exact he
  · by_cases hk:n=id
    · rw [hk,hget] at he;cases he;rw [hd] at hd';cases hd'
    · obtain ⟨h0,hh0,h1⟩:=fget n e hk he
      rcases h1 with rfl | rfl
      · exact hh0
      · cases hd'
theorem sC (hs : Sim P n0 nt β σ s a w) {id : Nat} (hid : Fresh a s id) {o : Oper} {T : TypeId} {n : Nat} (hop : o.op = .makeMap T none) (hno : ∀ t, AK P t ≠ .sl (Ck P n)) :
    let wr:Wr (std E N):={ hs:=[(id,some { e:=Ck P n,frozen:=false,nw:=true,l:=(std E N).lnil,dirty:=true })] }
    ∃ v σ' w',(execOp a.eval o).run P w=.ok (.value v) w'∧Mem P n0 β σ' (s.apply wr) w'∧Ext P (·=id) β σ s w β σ' (s.apply wr) w'∧Tidy a (·=id) s (s.apply wr)∧RelC P n0 β σ' (s.apply wr) w' (.mp (Ck P n) id) v:=by
  intro wr;have frn:FrOK s ([]:List (Nat×Option (HEnt (std E N)))):=fun n v hm=>by simp at hm
  obtain ⟨q1,q2,q3,q4⟩:=pz (P:=P) (n0:=n0) (a:=a) hs.M hid frn.pre (h:={ e:=Ck P n,frozen:=false,nw:=true,l:=[],dirty:=true }) (wr:=wr) rfl rfl rfl rfl rfl (Grow.refl w) (cap:=0) (ob:=.map #[] 0)
    (fun x=>.inr ⟨n,w.heap.size,rfl,hno,A3 _ _ _,KZ _ _,fun y hy=>absurd hy List.not_mem_nil,Old.new hs.n0le⟩)
  refine ⟨.map (some w.heap.size),_,_,?_,q1,q2,q3,⟨hno,_,rfl⟩,fun h2 hh2=>?_⟩
  · have e:(Instr.makeMap T none).run P w=.ok (.map (some w.heap.size)) (w.alloc (.map #[] 0)):=rfl;simp only [execOp,hop,Option.map_none,Sem.run_bind,e,Result.andThen_ok,Sem.run_pure]
  · have hh3:=q4.symm.trans hh2;cases hh3;exact ⟨rfl,w.heap.size,A3 _ _ _,rfl⟩
end
end Go.Px
end
section
namespace Go.Px
section
variable {E:Env} {N:Nat} {P:Program} {n0:Nz} {nt:Nat} {β:Nat→Option Nat} {σ:Nat→Option (Nat×Nat)} {s s':St0 E N} {a:Act} {w w':World}
theorem Xh {T e' : TypeId} (hu : P.underlying T = some (.slice e')) {lo hi : Option Value} {lb ub : Int} {av : Option Addr} {len cap : Nat} {ts : List TypeId}
    (b1:(lo=none∧lb=0)∨∃ k,lo=some (.int k lb)) (b2:(hi=none∧ub=len)∨∃ k,hi=some (.int k ub)) (hts:AN P e'=some ts) (hc:len≤cap)
    (c1:0≤lb) (c2:lb≤ub) (c3:ub≤(len:Int)) :
    (Instr.sliceAt T (.slice av len cap) lo hi none).run P w=.ok (.slice (if cap=lb.toNat then av else av.map (·.add (lb.toNat * ts.length))) (ub.toNat - lb.toNat) (cap - lb.toNat)) w:=by
  obtain ⟨hsz,hpos⟩:=CJ hts;obtain ⟨ti,hti⟩:=D2 (P:=P) (t:=e') (by omega);have hsb:=MV (P:=P) (w:=w) (isSl:=true) b1 b2 c1 c2 c3 hc;unfold Instr.sliceAt;rw [Sem.run_bind,run_underlying hu,Result.andThen_ok];simp [Instr.slice,run_underlying hu,hsb,BC hti,hsz]
def ZW (P:Program) (n0:Nz) (β:Nat→Option Nat) (σ:Nat→Option (Nat×Nat)) (s:St0 E N) (a:Act) (w:World) (ctx:List (Nat×Bool)) (o:Oper) (id:Nat) (as:List Bool) (wr:Wr (std E N)):Prop :=
  (∀ b∈as,b=true)→∃ z β' σ' w',((execOp a.eval o).run P w=.ok (.value z) w'∨((execOp a.eval o).run P w=.ok .skip w'∧z=undef))∧Mem P n0 β' σ' (s.apply { hs:=wr.hs }) w'∧Ext P (·=id) β σ s w β' σ' (s.apply { hs:=wr.hs }) w'∧Tidy a (·=id) s (s.apply { hs:=wr.hs })∧wr.bs=[] ∧
    ((∃ d v,o.dst=some d∧wr.ts=[(d,some ⟨ctx,v⟩)]∧RelAV P n0 β' σ' (s.apply { hs:=wr.hs }) w' v z∧∀ n,Fresh a s n→n≠id→n∉v.names)∨(o.dst=none∧wr.ts=[]))
theorem me (hs : Sim P n0 nt β σ s a w) {ctx : List (Nat × Bool)} (hf : Facts a ctx) {id : Nat} (hid : Fresh a s id) {o : Oper} {T : TypeId} {x hi : Operand} {lo : Option Operand} (hop : o.op = .slice T x lo (some hi) none) (hlo : QM lo = true)
    {c:AC0 E N} (hc:RelC P n0 β σ s w c (a.eval x)) {r:StepRes (std E N)} {m m':Nat} (h:RM.run s (V7 P ctx id o.dst T hi c) m=.ok (some r,m')):∃ as wr,r=.plain as wr∧ZW P n0 β σ s a w ctx o id as wr:=by
  unfold V7 at h
  split at h
  case h_2=>cases RM.ret_ok h
  rename_i e q e' d heT hd;obtain ⟨m1,h0⟩:=RM.h_ok h;cases hh:s.getH q with
  | none=>rw [hh] at h0;exact (RM.fail_ok h0).elim
  | some en =>
    rw [hh] at h0;simp only at h0
    split at h0
    case h_2=>cases RM.ret_ok h0
    rename_i hg;simp only [Bool.and_eq_true,Bool.not_eq_true'] at hg;obtain ⟨hfz,hg1,hg2⟩:=hg;have he1:=AD.1 hg1;have he2:=AD.1 hg2;subst he2;obtain ⟨b,m2,h1,h2⟩:=RM.bind_ok h0;obtain ⟨b,rfl⟩:∃ j:Int,j=b:=⟨b,rfl⟩;have hr:=RM.ret_ok h2;refine ⟨_,_,(Option.some.inj hr).symm,fun has=>?_⟩;have hb:decide (0≤(0:Int)∧(0:Int)≤b∧b≤((List.length en.l:Nat):Int))=true:=has _ List.mem_cons_self;have hb:=of_decide_eq_true hb;obtain ⟨k,hk⟩:=SR hs hf h1;have hu:=M5 heT
    rcases hs.M.H q en hh with ⟨t,ts,ht,hts,hrl,hm⟩ | hM
    case inr=>exact (hM.noSl (t:=T) (by rw [← he1];exact Bj.2 hu)).elim
    rw [← he1] at hts ht;have hlo':(lo.map a.eval=none∧(0:Int)=0)∨∃ k,lo.map a.eval=some (.int k 0):=by
      rcases Nl (ctx:=ctx) hlo with rfl | ⟨k,rfl⟩
      · exact .inl ⟨rfl,rfl⟩
      · exact .inr ⟨k,by simp [Act.eval]⟩
    have run:∀ {av:Option Addr} {len cap:Nat},a.eval x=.slice av len cap→en.l.length=len→len≤cap→(execOp a.eval o).run P w=.ok (.value (.slice (if cap=(0:Int).toNat then av else av.map (·.add ((0:Int).toNat * ts.length))) (b.toNat - (0:Int).toNat) (cap - (0:Int).toNat))) w:=by
      intro av len cap hv hl hcp;refine B6 (x:=Instr.sliceAt T (a.eval x) (lo.map a.eval) (some (a.eval hi)) none) (by simp [execOp,hop]) ?_;rw [hv,hk];exact Xh hu hlo' (.inr ⟨k,rfl⟩) hts hcp (Int.le_refl _) hb.2.1 (by rw [← hl];exact hb.2.2)
    have hbl:(en.l.take b.toNat).length=b.toNat:=by rw [List.length_take];have:=hb.2.2;omega
    obtain ⟨_,hkk⟩:=hc;obtain ⟨_,ho⟩:=hkk en hh;have hpv:∀ i j,i<b.toNat→AE (en.l.take b.toNat) i j=AE en.l i j:=fun i j hi=>by simp [AE,AB,List.getD,List.getElem?_take,hi]
    let hnew:HEnt (std E N):={ en with l:=en.l.take b.toNat,dirty:=true }
    rcases ho with ⟨blk,cap,hsi,hva⟩ | ⟨hsi,hz,av0,hva⟩
    · rcases hm with ⟨hn,_⟩ | ⟨blk',cap',cells,el,hs',hheap,hel,hsz,hcap,hnw,u,hu1,hrep⟩
      · rw [hn] at hsi;cases hsi
      · rw [hs'] at hsi;cases hsi;subst hel;have hlen:b.toNat≤en.l.length:=by have:=hb.2.2;omega
        obtain ⟨q1,q2,q3,q4⟩:=YQ hs.M hid hh hfz hs' (h:=hnew) (wr:={ hs:=[(q,none),(id,some hnew)] }) (w':=w) rfl rfl rfl rfl hfz rfl rfl rfl rfl (fun _ _=>rfl) hheap (by rw [he1] at ht;exact ht) (by rw [he1] at hts;exact hts)
          (fun r hr=>hrl r (List.mem_of_mem_take hr)) hsz (by show (en.l.take b.toNat).length≤cap;omega) hnw u
          (fun i j hi hj=>hu1 i j (by have:i<(en.l.take b.toNat).length:=hi;omega) hj)
          (fun i j t' hi hj=>by
            have hi':i<b.toNat:=by have:i<(en.l.take b.toNat).length:=hi;omega
            show Rep P w _ t' (u i j) (AE (en.l.take b.toNat) i j);rw [hpv i j hi'];exact hrep i j t' (by omega) hj)
        refine ⟨_,β,_,w,.inl (run hva rfl hcap),q1,q2,q3,rfl,.inl ⟨d,one (.own e id),hd,rfl,Aj ?_,fun n _ hn=>by simpa [AV.names,one,AG,AC.names] using hn⟩⟩;have hsl:(Value.slice (if cap=(0:Int).toNat then (some ⟨blk,0,none⟩:Option Addr) else (some (⟨blk,0,none⟩:Addr)).map (·.add ((0:Int).toNat * ts.length))) (b.toNat - (0:Int).toNat) (cap - (0:Int).toNat))=.slice (some ⟨blk,0,none⟩) b.toNat cap:=by
          split<;>simp [Ia]
        rw [hsl];have:=Jd (P:=P) (n0:=n0) (β:=β) (w':=w) (T0:=T) (h:=hnew) (by show _=LK.sl en.e;rw [← he1];exact Bj.2 hu) q4 (A3 σ id (some (blk,cap))) (n:=b.toNat) hbl.symm;rw [show hnew.e=e from he1.symm] at this;exact this
    · have hl0:en.l=[]:=List.length_eq_zero_iff.1 hz;have hb0:b=0:=by have h2:=hb.2.2;rw [hl0] at h2;have:=hb.2.1;simp at h2;omega
      subst hb0;have hpre:PreOK s [(q,(none:Option (HEnt (std E N))))]:=fun n v hm=>by
        simp only [List.mem_singleton,Prod.mk.injEq] at hm;exact .inl hm.2
      obtain ⟨q1,q2,q3,q4⟩:=cg hs.M hid hpre (h:=hnew) (wr:={ hs:=[(q,none)]++[(id,some hnew)] }) rfl rfl rfl rfl (by simp [hnew,hl0]) (by rw [he1] at ht;exact ht) (by rw [he1] at hts;exact hts);refine ⟨_,β,_,w,.inl (run hva (by rw [hl0];rfl) (Nat.le_refl _)),q1,q2,q3,rfl,.inl ⟨d,one (.own e id),hd,rfl,Aj ?_,fun n _ hn=>by simpa [AV.names,one,AG,AC.names] using hn⟩⟩;refine ⟨⟨T,Bj.2 hu,_,_,_,rfl⟩,fun h2 hh2=>?_⟩;have hh3:some hnew=some h2:=q4.symm.trans hh2;cases hh3;exact ⟨he1.symm,.inr ⟨A3 _ _ _,by simp [hnew,hl0],av0,by simp⟩⟩
theorem ma (hs : Sim P n0 nt β σ s a w) {ctx : List (Nat × Bool)} (hf : Facts a ctx) {id : Nat} {o : Oper} {T : TypeId} {x lo : Operand} (hop : o.op = .slice T x (some lo) none none)
    {c:AC0 E N} (hc:RelC P n0 β σ s w c (a.eval x)) (hcn:∀ n,Fresh a s n→n∉c.names) {r:StepRes (std E N)} {m m':Nat} (h:RM.run s (WG P ctx o.dst T lo c) m=.ok (some r,m')):∃ as wr,r=.plain as wr∧ZW P n0 β σ s a w ctx o id as wr:=by
  unfold WG at h
  split at h
  case h_2=>cases RM.ret_ok h
  rename_i e q e' d heT hd;obtain ⟨m1,h0⟩:=RM.h_ok h;cases hh:s.getH q with
  | none=>rw [hh] at h0;exact (RM.fail_ok h0).elim
  | some en =>
    rw [hh] at h0;simp only at h0
    split at h0
    case h_2=>cases RM.ret_ok h0
    rename_i hg;simp only [Bool.and_eq_true,Bool.not_eq_true'] at hg;obtain ⟨hfz,hg1,hg2⟩:=hg;have he1:=AD.1 hg1;have he2:=AD.1 hg2;subst he2;obtain ⟨b,m2,h1,h2⟩:=RM.bind_ok h0;obtain ⟨b,rfl⟩:∃ j:Int,j=b:=⟨b,rfl⟩;have hr:=RM.ret_ok h2;refine ⟨_,_,(Option.some.inj hr).symm,fun has=>?_⟩;have hb:decide (0≤b∧b≤((List.length en.l:Nat):Int)∧((List.length en.l:Nat):Int)≤((List.length en.l:Nat):Int))=true:=has _ List.mem_cons_self;have hb:=of_decide_eq_true hb;obtain ⟨k,hk⟩:=SR hs hf h1;have hu:=M5 heT
    rcases hs.M.H q en hh with ⟨t,ts,ht,hts,hrl,hm⟩ | hM
    case inr=>exact (hM.noSl (t:=T) (by rw [← he1];exact Bj.2 hu)).elim
    rw [← he1] at hts ht;have frn:FrOK s ([]:List (Nat×Option (HEnt (std E N)))):=fun n v hm=>by simp at hm
    have sub:=frn.sub (wr:={ hs:=[] }) rfl rfl;have run:∀ {av:Option Addr} {cap:Nat},a.eval x=.slice av en.l.length cap→en.l.length≤cap→(execOp a.eval o).run P w=.ok (.value (.slice (if cap=b.toNat then av else av.map (·.add (b.toNat * ts.length))) (en.l.length - b.toNat) (cap - b.toNat))) w:=by
      intro av cap hv hcp;refine B6 (x:=Instr.sliceAt T (a.eval x) (some (a.eval lo)) none none) (by simp [execOp,hop]) ?_;rw [hv,hk];have:=Xh (w:=w) hu (.inr ⟨k,rfl⟩) (.inl ⟨rfl,rfl⟩) hts hcp hb.1 hb.2.1 (Int.le_refl _) (av:=av);simpa using this
    obtain ⟨_,hkk⟩:=hc;obtain ⟨_,ho⟩:=hkk en hh;have fin : ∀ {z : Value}, (execOp a.eval o).run P w = .ok (.value z) w → RelC P n0 β σ s w (.tail e q b : AC0 E N) z → ∃ z β' σ' w', ((execOp a.eval o).run P w = .ok (.value z) w' ∨ ((execOp a.eval o).run P w = .ok .skip w' ∧ z = undef)) ∧ Mem P n0 β' σ' (s.apply { hs := [] }) w' ∧ Ext P (· = id) β σ s w β' σ' (s.apply { hs := [] }) w' ∧ Tidy a (· = id) s (s.apply { hs := [] }) ∧ ([] : List (Nat × Option (BEnt (std E N)))) = [] ∧
        ((∃ d' c,o.dst=some d'∧[(d,some (⟨ctx,one (.tail e q b:AC0 E N)⟩:TV (std E N)))]=[(d',some ⟨ctx,c⟩)]∧RelAV P n0 β' σ' (s.apply { hs:=[] }) w' c z∧∀ n,Fresh a s n→n≠id→n∉c.names)∨(o.dst=none∧[(d,some (⟨ctx,one (.tail e q b:AC0 E N)⟩:TV (std E N)))]=[])):=fun {z} h1 h2 =>
      ⟨z,β,σ,w,.inl h1,sub.mem hs.M,sub.ext P _ β σ w,Tidy.of_sub frn.pre rfl rfl rfl _,rfl,.inl ⟨d,one _,hd,rfl,Aj ((sub.ext P (fun _=>False) β σ w).relC (fun _ _ h=>h) h2),fun n hn _ hm=>hcn n hn (by simpa [AV.names,one,AG,AC.names] using hm)⟩⟩
    rcases ho with ⟨blk,cap,hsi,hva⟩ | ⟨hsi,hz,av0,hva⟩
    · rcases hm with ⟨hn,_⟩ | ⟨blk',cap',cells,el,hs',hheap,hel,hsz,hcap,hnw,u,hu1,hrep⟩
      · rw [hn] at hsi;cases hsi
      · rw [hs'] at hsi;cases hsi;refine fin (run hva hcap) ⟨hb.1,⟨T,Bj.2 hu,_,_,_,rfl⟩,fun h2 hh2=>?_⟩;rw [hh] at hh2;cases hh2;refine ⟨he1.symm,hb.2.1,_,_,rfl,?_⟩;have:=hb.2.1
        by_cases hq:en.l.length=b.toNat
        · exact .inl hq
        · refine .inr ⟨blk,cap,ts,hts,hs',?_⟩;rw [if_neg (by omega)];simp [Ia]
    · have hl0:en.l=[]:=List.length_eq_zero_iff.1 hz;refine fin (run (av:=av0) (cap:=0) (by rw [hva,hz]) (by omega)) ⟨hb.1,⟨T,Bj.2 hu,_,_,_,rfl⟩,fun h2 hh2=>?_⟩;rw [hh] at hh2;cases hh2;have:=hb.2.1;exact ⟨he1.symm,hb.2.1,_,_,rfl,.inl (by omega)⟩
theorem U2:∀ {ts:List TypeId} {cs:List (AC0 E N)},AU P ts cs=true→cs.length=ts.length
 | [],[],_=>rfl
 | [],_::_,h=>by simp [AU] at h
 | _::_,[],h=>by simp [AU] at h
 | t::ts,c::cs,h=>by
  simp only [AU] at h
  split at h
  ·simp [U2 h]
  ·cases h
theorem pA (hs : Sim P n0 nt β σ s a w) {ctx : List (Nat × Bool)} {id : Nat} {o : Oper} {T : TypeId} {x : Operand} (hop : o.op = .call ⟨.builtin .clear, #[x], #[T]⟩)
    {c:AC0 E N} (hc:RelC P n0 β σ s w c (a.eval x)) {r:StepRes (std E N)} {m m':Nat} (h:RM.run s (eZ P o.dst T c) m=.ok (some r,m')):∃ as wr,r=.plain as wr∧ZW P n0 β σ s a w ctx o id as wr:=by
  unfold eZ at h
  split at h
  case h_2=>exact (RM.fail_ok h).elim
  rename_i e q i e' heT hd;obtain ⟨m1,h0⟩:=RM.h_ok h;cases hh:s.getH q with
  | none=>rw [hh] at h0;exact (RM.fail_ok h0).elim
  | some en =>
    rw [hh] at h0;simp only at h0
    split at h0
    case h_2=>exact (RM.fail_ok h0).elim
    rename_i z ts hz hts;obtain ⟨_,m2,h1,h2⟩:=RM.bind_ok h0;obtain ⟨⟨ls,fr,nw⟩,m3,h3,h4⟩:=RM.bind_ok h2;have hr:=RM.ret_ok h4;have hg:=RM.guard_ok h1;simp only [Bool.and_eq_true,Bool.not_eq_true'] at hg;obtain ⟨⟨hfz,hg1,hg2⟩,hk,hsc⟩:=hg;have he1:=AD.1 hg1;have he2:=AD.1 hg2;subst he2;have hu:=M5 heT;obtain ⟨hsz,hpos⟩:=CJ hts;obtain ⟨ti,v,hi',hiz,hzv,hrz,hnz,hoz⟩:=JM (n0:=n0) (β:=β) (σ:=σ) (s:=s) (w:=w) hz;obtain ⟨rfl,rfl⟩:=Pt hsc h3;have frn:FrOK s ([]:List (Nat×Option (HEnt (std E N)))):=fun n v hm=>by simp at hm
    obtain ⟨_,_,hll,hlf⟩:=QZ hs.M hrz.1 h3;have hk1:AU P ts z.cs=true:=by
      simp only [I7] at hk
      split at hk
      · assumption
      · cases hk
    have hzl:z.cs.length=ts.length:=U2 hk1;have hvl:v.cells.size=ts.length:=by have:=RelCs.length hrz.1;simp at this;omega
    have htz:ti.size=ts.length:=by rw [← hsz];simp [Program.cellsOf,hi']
    obtain ⟨i,rfl⟩:∃ j:Int,j=i:=⟨i,rfl⟩;obtain ⟨i0,_,hkk⟩:=hc;obtain ⟨_,hin,av,cap,hva,hor⟩:=hkk en hh;have hin:i≤((List.length en.l:Nat):Int):=hin;have i0:(0:Int)≤i:=i0;have hiN:i.toNat≤en.l.length:=by omega
    rcases hs.M.H q en hh with ⟨t,ts2,ht,hts2,hrl,hm⟩ | hM
    case inr=>exact (hM.noSl (t:=T) (by rw [← he1];exact Bj.2 hu)).elim
    rw [← he1,hts] at hts2;cases hts2
    let zr:List PV:=ls.map Leaf.pv
    let nl:Rows:=en.l.take i.toNat++List.replicate (en.l.length - i.toNat) zr
    let hnew:HEnt (std E N):={ en with l:=nl,dirty:=true }
    have hnl:nl.length=en.l.length:=by simp [nl];omega
    have hlist:(std E N).lapp ((std E N).lsub en.l ((std E N).lit .i64 0) i) ((std E N).lrep ((std E N).llen ((std E N).lsub en.l i ((std E N).llen en.l))) ls)=nl:=by
      show ((en.l.take i.toNat).drop (0:Int).toNat)++List.replicate ((((en.l.take ((en.l.length:Nat):Int).toNat).drop i.toNat).length:Nat):Int).toNat (ls.map Leaf.pv)=nl;simp [nl,zr]
    have hrr:r=.plain [] { hs:=[(q,some hnew)] }:=by
      have:=(Option.some.inj hr).symm;rw [this];show StepRes.plain [] { hs:=[(q,some { en with l:=(std E N).lapp ((std E N).lsub en.l ((std E N).lit .i64 0) i) ((std E N).lrep ((std E N).llen ((std E N).lsub en.l i ((std E N).llen en.l))) ls),dirty:=true })] }=_;rw [hlist]
    refine ⟨_,_,hrr,fun has=>?_⟩;have hex:(execOp a.eval o)=(do pure (.value (← Builtin.clear_ #[T] o.type #[a.eval x]))):=by
      simp [execOp,hop,resolve,invoke,builtin]
    have hrowl:∀ r∈nl,r.length=ts.length:=fun r hr=>by
      rcases List.mem_append.1 hr with h | h
      · exact hrl r (List.mem_of_mem_take h)
      · rw [List.eq_of_mem_replicate h];simp [zr];omega
    by_cases hq:en.l.length=i.toNat
    ·
      have hne:nl=en.l:=by simp [nl,hq,List.take_of_length_le (Nat.le_of_eq hq)]
      have hrun:(Builtin.clear_ #[T] o.type #[a.eval x]).run P w=.ok (.tuple #[]) w:=by
        rw [hva,hq,Nat.sub_self];cases av<;>simp [Builtin.clear_,run_underlying hu]
      obtain ⟨q1,q2,q3⟩:=WO (a:=a) hs.M hh hfz (h:=hnew) (wr:={ hs:=[(q,some hnew)] }) (w':=w) rfl rfl rfl rfl hfz rfl (fun _=>hnl) rfl rfl rfl rfl (fun _ _=>rfl)
        (fun x=>by
          rcases hs.M.H q en hh with ⟨t,ts,a1,a2,a3,a4⟩ | hM
          case inr=>exact (hM.noSl (t:=T) (by rw [← he1];exact Bj.2 hu)).elim
          refine .inl ⟨t,ts,a1,a2,by show ∀ r∈nl,_;rw [hne];exact a3,?_⟩
          rcases a4 with ⟨b1,b2⟩ | ⟨blk,cap,cells,el,b1,b2,b3,b4,b5,b6,vv,b7,b8⟩
          · exact .inl ⟨b1,by show nl=_;rw [hne];exact b2⟩
          · refine .inr ⟨blk,cap,cells,el,b1,b2,b3,b4,by show nl.length≤_;rw [hne];exact b5,b6,vv,by show ∀ i j,i<nl.length→_;rw [hne];exact b7,fun i j t' h1 h2=>?_⟩;show Rep P w _ t' (vv i j) (AE nl i j);rw [hne];exact x.rep (b8 i j t' (by have h1:i<nl.length:=h1;rwa [hne] at h1) h2))
      exact ⟨.tuple #[],β,σ,w,.inl (by rw [hex];simp [hrun]),q1,q2.weaken (fun _ h=>h.elim),q3.weaken (fun _ h=>h.elim),rfl,.inr ⟨hd,rfl⟩⟩
    · rcases hor with hor | ⟨blk,cap2,ts3,hts3,hsq,hav⟩
      · exact (hq hor).elim
      · rw [hts] at hts3;cases hts3
        rcases hm with ⟨hn,_⟩ | ⟨blk',cap',cells,el,hs',hheap,hel,hsz2,hcap,hnw,u,hu1,hrep⟩
        · rw [hn] at hsq;cases hsq
        · rw [hs'] at hsq;cases hsq
          let n:=en.l.length - i.toNat
          have hnpos:0<n:=by show 0<en.l.length - i.toNat;omega
          let us:List Value:=(Builtin.zeroCells v.cells n).toList
          have husl:us.length=n * ts.length:=by simp [us,size_zeroCells,hvl]
          have hget:∀ k,k<n * ts.length→us[k]?=v.cells[k % ts.length]?:=fun k hk=>by
            have h1:k<(Builtin.zeroCells v.cells n).size:=by rw [size_zeroCells,hvl];exact hk
            simp only [us,Array.getElem?_toList];rw [Array.getElem?_eq_getElem h1];simp only [Builtin.zeroCells,Array.getElem_map,Array.getElem_range,hvl];rw [Array.getElem?_eq_getElem (by rw [hvl];exact Nat.mod_lt _ hpos)];simp [Nat.mod_lt _ hpos,hvl]
          have hone:∀ x∈us,x.oneCell'=true:=fun x hx=>by
            obtain ⟨k,hk⟩:=List.getElem?_of_mem hx;have hklt:k<n * ts.length:=by rw [← husl];exact (List.getElem?_eq_some_iff.1 hk).1
            rw [hget k hklt] at hk;exact hrz.1.one x (by rw [Array.mem_toList_iff];exact Array.mem_of_getElem? hk)
          have hle:i.toNat * ts.length+us.length≤cells.size:=by
            rw [husl,hsz2,← Nat.add_mul];exact Nat.mul_le_mul_right _ (by show i.toNat+(en.l.length - i.toNat)≤cap2;omega)
          have hst:=run_storeCells_at (P:=P) blk (i.toNat * ts.length) el us 0 cells w hheap (by simpa using hle) hone
          let w2:=w.setRow blk (laid cells (i.toNat * ts.length) us)
          have hrun:(Builtin.clear_ #[T] o.type #[a.eval x]).run P w=.ok (.tuple #[]) w2:=by
            rw [hva,hav];obtain ⟨n',hn'⟩:∃ n',en.l.length - i.toNat=n'+1:=⟨en.l.length - i.toNat - 1,by omega⟩;have hst2:(storeCells ⟨blk,i.toNat * ts.length,none⟩ (Builtin.zeroCells v.cells (n'+1)).toList).run P w=.ok () w2:=by
              have:us=(Builtin.zeroCells v.cells (n'+1)).toList:=by show (Builtin.zeroCells v.cells (en.l.length - i.toNat)).toList=_;rw [hn']
              rw [← this];simpa [w2,laid,List.append_assoc] using hst
            rw [hn'];simp [Builtin.clear_,run_underlying hu,hzv,hst2]
          have hpl:∀ i' j,i'<i.toNat→AE nl i' j=AE en.l i' j:=fun i' j h=>by
            simp only [AE,AB,List.getD,nl];rw [List.getElem?_append_left (by rw [List.length_take];omega),List.getElem?_take,if_pos h]
          have hpr:∀ i' j,i.toNat≤i'→i'<en.l.length→AE nl i' j=AA zr j:=fun i' j h1 h2=>by
            simp only [AE,AB,List.getD,nl];rw [List.getElem?_append_right (by rw [List.length_take];omega)];rw [List.length_take,List.getElem?_replicate,if_pos (by omega)];rfl
          have hs1:∀ b,(∀ cap,σ q≠some (b,cap))→w2.heap[b]?=w.heap[b]?:=fun b hb=>setRow_other w blk b _ (fun e=>hb cap2 (e▸hs'))
          obtain ⟨q1,q2,q3⟩:=WO (a:=a) hs.M hh hfz (h:=hnew) (wr:={ hs:=[(q,some hnew)] }) (w':=w2) rfl rfl rfl rfl hfz rfl (fun _=>hnl) rfl rfl rfl (by simp [w2]) hs1
            (fun xx=>by
              refine .inl ⟨t,ts,ht,by rw [← hts,he1],hrowl,.inr ⟨blk,cap2,laid cells (i.toNat * ts.length) us,el,hs',setRow_heap w blk cells _ _ _ hheap,hel,by rw [cz hle];exact hsz2,by show nl.length≤cap2;rw [hnl];exact hcap,hnw,
                fun i' j=>if i.toNat≤i' then v.cells.getD j undef else u i' j,fun i' j hi' hj=>?_,fun i' j t' hi' hj=>?_⟩⟩
              · have hi2:i'<en.l.length:=by have:i'<nl.length:=hi';omega
                rw [gt hle]
                by_cases hc:i.toNat≤i'
                · have h1:i.toNat * ts.length≤i' * ts.length:=Nat.mul_le_mul_right _ hc;have h2:i' * ts.length+j<i.toNat * ts.length+us.length:=by
                    rw [husl,← Nat.add_mul];have:(i'+1) * ts.length≤(i.toNat+n) * ts.length:=Nat.mul_le_mul_right _ (by show i'+1≤i.toNat+(en.l.length - i.toNat);omega);rw [Nat.add_mul,Nat.one_mul] at this;omega
                  rw [if_pos ⟨by omega,h2⟩];simp only [hc,if_true];have e2:i' * ts.length+j - i.toNat * ts.length=(i' - i.toNat) * ts.length+j:=by rw [Nat.sub_mul];omega
                  have h3:(i' - i.toNat) * ts.length+j<n * ts.length:=by
                    have:(i' - i.toNat+1) * ts.length≤n * ts.length:=Nat.mul_le_mul_right _ (by show i' - i.toNat+1≤en.l.length - i.toNat;omega);rw [Nat.add_mul,Nat.one_mul] at this;omega
                  rw [e2,hget _ h3,Nat.add_comm,Nat.mul_comm,Nat.add_mul_mod_self_left,Nat.mod_eq_of_lt hj];simp [hvl,hj]
                · have h1:(i'+1) * ts.length≤i.toNat * ts.length:=Nat.mul_le_mul_right _ (by omega);rw [Nat.add_mul,Nat.one_mul] at h1;rw [if_neg (by omega)];simp only [hc,if_false];exact hu1 i' j hi2 hj
              · have hi2:i'<en.l.length:=by have:i'<nl.length:=hi';omega
                have hj':j<ts.length:=(List.getElem?_eq_some_iff.1 hj).1;show Rep P w2 _ t' (if i.toNat≤i' then v.cells.getD j undef else u i' j) (AE nl i' j)
                by_cases hc:i.toNat≤i'
                · rw [if_pos hc,hpr i' j hc hi2];have:=hlf ts (s.apply { hs:=[] }) hk1 (frn.sub rfl rfl) (frn.frz rfl) true (fun h=>h) j t' (v.cells.getD j undef) hj (by simp [hvl,hj']);have hgo:Rep P w (StB n0 β σ s hnew.nw) t' (v.cells.getD j undef) (AA zr j):=by
                    refine Rep.mono (w':=w) (St':=StB n0 β σ s hnew.nw) this (fun b _ hlt=>⟨rfl,hlt⟩) (fun b hb hlt=>?_);refine ⟨fun hm=>hb.1 ?_,hb.2.mono (fun _=>rfl)⟩
                    rcases hm with ⟨n,e,he,hb⟩ | ⟨n,e,cap3,he,hf,hb⟩
                    · exact .inl ⟨n,e,by rw [State.getB_apply0 s _ rfl];exact he,hb⟩
                    · exact .inr ⟨n,e,cap3,by rw [State.getH_apply0 s _ rfl];exact he,hf,hb⟩
                  exact xx.rep hgo
                · rw [if_neg hc,hpl i' j (by omega)];exact xx.rep (hrep i' j t' hi2 hj))
          exact ⟨.tuple #[],β,σ,w2,.inl (by rw [hex];simp [hrun]),q1,q2.weaken (fun _ h=>h.elim),q3.weaken (fun _ h=>h.elim),rfl,.inr ⟨hd,rfl⟩⟩
theorem aC {cfg:Cfg} {o:Oper} {sp:Spec} (h:ME cfg o.op=some sp):BS P o=1:=by
 unfold ME at h
 split at h
 all_goals first | (rename_i hop;unfold BS;rw [hop];done) | cases h
theorem W5 {T : TypeId} {n q : Nat} {c : AC0 E N} {en : HEnt (std E N)} {m m' : Nat} (h : RM.run s (Rz P T n c) m = .ok ((q, en), m')) :
    ∃ e,c=.mp e q∧s.getH q=some en∧en.frozen=false∧e=Ck P n∧MT P T n=true:=by
  unfold Rz at h
  split at h
  · rename_i e q';obtain ⟨m1,h0⟩:=RM.h_ok h;cases hh:s.getH q' with
    | none=>rw [hh] at h0;exact (RM.fail_ok h0).elim
    | some en' =>
      rw [hh] at h0;simp only at h0
      split at h0
      · rename_i hg;have:=RM.ret_ok h0;cases this;simp only [Bool.and_eq_true,Bool.not_eq_true'] at hg;exact ⟨e,rfl,hh,hg.1,AD.1 hg.2.1.1,hg.2.2⟩
      · exact (RM.fail_ok h0).elim
  · exact (RM.fail_ok h).elim
theorem Ya (hs : Sim P n0 nt β σ s a w) {ctx : List (Nat × Bool)} (hf : Facts a ctx) {T : TypeId} {k : Operand} {ks : List Int} {m m' : Nat} (h : RM.run s (RN P ctx T k) m = .ok (ks, m')) :
    ∃ kv,RelVal P n0 β σ s w kv (a.eval k)∧PX (O:=std E N) kv.cs=some ks∧kv.agg=true:=by
  obtain ⟨kv,m1,h1,h2⟩:=RM.bind_ok h;have h3:=RM.ofOpt_ok h2;unfold kK at h3
  split at h3
  · rename_i ha;exact ⟨kv,(IP hs hf h1).1,h3,ha⟩
  · cases h3
theorem Yg {c:AC0 E N} {z:Int} {m m':Nat} (h:RM.run s (Zj c) m=.ok (z,m')):c=.int .i64 z:=by
 unfold Zj at h
 split at h
 ·rw [RM.ret_ok h]
 ·exact (RM.fail_ok h).elim
theorem XC {info:TypeId→Option TypeInfo} {fs:Array Field} {i:TypeInfo} (h:Made.reckonStruct info fs=some i):∃ o,i.desc=.struct o:=by
 unfold Made.reckonStruct at h;obtain ⟨r,_,h⟩:=Option.bind_eq_some_iff.1 h;simp only [pure] at h
 repeat' split at h
 all_goals (cases h;exact ⟨_,rfl⟩)
theorem iA {info:TypeId→Option TypeInfo} {d:TypeDesc} {i:TypeInfo} {e:TypeId} (h:Made.reckon info d=some i) (hd:i.desc=.slice e):∃ j,info e=some j:=by
 cases d with
 | slice e' =>
  obtain ⟨j,hj,h⟩:=Option.bind_eq_some_iff.1 h;obtain ⟨s,_,h⟩:=Option.bind_eq_some_iff.1 h;cases h;cases hd;exact ⟨j,hj⟩
 | struct fs=>obtain ⟨o,ho⟩:=XC h;rw [ho] at hd;cases hd
 | pointer e' =>
  obtain ⟨j,hj,h⟩:=Option.bind_eq_some_iff.1 h;simp only at h
  repeat' split at h
  all_goals first | (cases h;done) | (obtain ⟨s,_,h⟩:=Option.bind_eq_some_iff.1 h;cases h;cases hd)
 | map k e' =>
  obtain ⟨j,hj,h⟩:=Option.bind_eq_some_iff.1 h;obtain ⟨j,hj,h⟩:=Option.bind_eq_some_iff.1 h;obtain ⟨j,hj,h⟩:=Option.bind_eq_some_iff.1 h;obtain ⟨j,hj,h⟩:=Option.bind_eq_some_iff.1 h;cases h;cases hd
 | chan c e' =>
  obtain ⟨j,hj,h⟩:=Option.bind_eq_some_iff.1 h;obtain ⟨j,hj,h⟩:=Option.bind_eq_some_iff.1 h;cases h;cases hd
 | func ps rs v =>
  obtain ⟨j,hj,h⟩:=Option.bind_eq_some_iff.1 h;cases h;cases hd
 | array n e' =>
  obtain ⟨j,hj,h⟩:=Option.bind_eq_some_iff.1 h;obtain ⟨s,hs,h⟩:=Option.bind_eq_some_iff.1 h;cases h;cases hd
 | _=>cases h
theorem qF {n:Nat} (h:noSl P (Ck P n)=true) (hn:n<200) (t:TypeId):AK P t≠.sl (Ck P n):=fun hc=>by
 have hu:=Bj.1 hc;unfold noSl at h;rw [List.all_eq_true] at h;have none:∀ f,Made.infoAt P.toTables f (Ck P n)=none:=fun f=>by
  cases f with
  | zero=>rfl
  | succ f =>
   unfold Made.infoAt;have h1:¬ Ck P n<P.toTables.types.size:=by unfold Ck;show ¬ P.types.size+2+n<P.types.size;omega
   rw [if_neg h1];have h2:Ck P n - P.toTables.types.size=2+n:=by unfold Ck;show P.types.size+2+n - P.types.size=2+n;omega
   rw [h2];have h3:Made.decode (2+n)=none:=by
    have:Made.unpack (2+n)=none:=by
     unfold Made.unpack;rw [show 2+n+1=(n+1)+1+1 by omega];simp only [Made.unpackFrom];rw [if_neg (by omega),if_neg (by omega),if_neg (by omega),show (2+n) / 257=0 by omega];simp
    unfold Made.decode;rw [this];rfl
   rw [h3];rfl
 have key:∀ (u:TypeId) (i:TypeInfo),P.info? u=some i→i.desc=.slice (Ck P n)→False:=fun u i hi hd=>by
  unfold Tables.info? at hi
  split at hi
  ·have hm:i∈P.types.toList:=by
    rw [Array.mem_toList_iff];exact Array.mem_of_getElem? hi
   have:=h i hm;rw [hd] at this;simp only [Bool.not_eq_true',AD.2 rfl] at this;cases this
  ·rename_i hlt;unfold Made.depth Made.infoAt at hi;rw [if_neg hlt] at hi;obtain ⟨d,_,h2⟩:=Option.bind_eq_some_iff.1 hi;obtain ⟨j,hj⟩:=iA h2 hd;rw [none] at hj;cases hj
 unfold Program.underlying at hu
 split at hu
 ·rename_i u _ _ _ _ _ _ _ _ _ _;cases hi:P.info? u with
  | none=>rw [hi] at hu;cases hu
  | some i=>rw [hi] at hu;exact key u i hi (Option.some.inj hu)
 ·rename_i i _ hi;exact key t i hi (Option.some.inj hu)
 ·cases hu
theorem cp {cfg : Cfg} (hs : Sim P n0 nt β σ s a w) {ctx : List (Nat × Bool)} (hf : Facts a ctx) {id : Nat} (hid : Fresh a s id) {o : Oper} {sp : Spec} (hop : ME cfg o.op = some sp)
    {r:StepRes (std E N)} {m m':Nat} (h:RM.run s (Sb P ctx id o.dst sp) m=.ok (some r,m')):∃ as wr,r=.plain as wr∧ZW P n0 β σ s a w ctx o id as wr:=by
  unfold ME at hop
  split at hop
  · rename_i T x lo hi ho
    split at hop
    · rename_i hg;cases hop;simp only [Bool.and_eq_true] at hg;obtain ⟨c,m1,h1,h2⟩:=RM.bind_ok h;exact me hs hf hid ho hg.2 (Bt hs hf h1).1 h2
    · cases hop
  · rename_i T x lo ho
    split at hop
    · cases hop;obtain ⟨c,m1,h1,h2⟩:=RM.bind_ok h;obtain ⟨e1,_,e2⟩:=Bt hs hf h1;exact ma hs hf ho e1 e2 h2
    · cases hop
  · rename_i args tys ho
    split at hop
    · rename_i x T ha ht;cases hop;obtain ⟨c,m1,h1,h2⟩:=RM.bind_ok h;have ha':args=#[x]:=by apply Array.ext';simpa using ha
      have ht':tys=#[T]:=by apply Array.ext';simpa using ht
      subst ha';subst ht';exact pA hs ho (Bt hs hf h1).1 h2
    · cases hop
  · rename_i T ho;cases hop
    replace h:RM.run s (gE P ctx id o.dst T (P.cellsOf (IH P T).1)) m=.ok (some r,m'):=h
    unfold gE at h
    split at h
    case h_2=>exact (RM.fail_ok h).elim
    rename_i d hd hg;simp only [Bool.and_eq_true] at hg;refine ⟨_,_,(Option.some.inj (RM.ret_ok h)).symm,fun _=>?_⟩;obtain ⟨v,σ',w',r1,r2,r3,r4,r5⟩:=sC hs hid ho (qF hg.2.1 (Nat.le_of_ble_eq_true hg.2.2));exact ⟨v,β,σ',w',.inl r1,r2,r3,r4,rfl,.inl ⟨d,_,hd,rfl,Aj r5,fun n _ hn=>by simpa [AV.names,one,AG,AC.names] using hn⟩⟩
  · rename_i T mm k v ho;cases hop;obtain ⟨c,m1,h1,h2⟩:=RM.bind_ok h;obtain ⟨ks,m2,h3,h4⟩:=RM.bind_ok h2;obtain ⟨x,m3,h5,h6⟩:=RM.bind_ok h4;obtain ⟨z,m4,h7,h8⟩:=RM.bind_ok h6;unfold kZ at h8
    split at h8
    case h_2=>exact (RM.fail_ok h8).elim
    rename_i hd;obtain ⟨⟨q,en⟩,m5,h9,h10⟩:=RM.bind_ok h8;obtain ⟨e,rfl,hh,hfz,he,hmb⟩:=W5 h9;obtain ⟨kv,k1,k2,k3⟩:=Ya hs hf h3;have hx:=Yg h7;subst hx;refine ⟨_,_,(Option.some.inj (RM.ret_ok h10)).symm,fun _=>?_⟩;obtain ⟨w',r1,r2,r3,r4⟩:=qo hs (ctx:=ctx) (id:=id) ho hd (Bt hs hf h1).1 k1 k2 k3 (Bt hs hf h5).1 hh hfz he hmb;exact ⟨undef,β,σ,w',.inr ⟨r1,rfl⟩,r2,r3.weaken (fun _ h=>h.elim),r4.weaken (fun _ h=>h.elim),rfl,.inr ⟨hd,rfl⟩⟩
  · rename_i T mm k ho;cases hop;obtain ⟨c,m1,h1,h2⟩:=RM.bind_ok h;obtain ⟨ks,m2,h3,h4⟩:=RM.bind_ok h2;unfold TN at h4
    split at h4
    case h_2=>exact (RM.fail_ok h4).elim
    rename_i d hd;obtain ⟨⟨q,en⟩,m5,h9,h10⟩:=RM.bind_ok h4;obtain ⟨e,rfl,hh,hfz,he,hmb⟩:=W5 h9;obtain ⟨kv,k1,k2,k3⟩:=Ya hs hf h3;refine ⟨_,_,(Option.some.inj (RM.ret_ok h10)).symm,fun _=>?_⟩;have run:=qX hs (T:=T) (k:=k) (Bt hs hf h1).1 k1 k2 k3 hh he hmb;have frn:FrOK s ([]:List (Nat×Option (HEnt (std E N)))):=fun n v hm=>by simp at hm
    have sub:=frn.sub (wr:={ hs:=[] }) rfl rfl;exact ⟨_,β,σ,w,.inl (B6 (x:=Instr.lookup T (a.eval mm) (a.eval k) false) (by simp [execOp,ho]) run),sub.mem hs.M,sub.ext P _ β σ w,Tidy.of_sub frn.pre rfl rfl rfl _,rfl,.inl ⟨d,_,hd,rfl,Aj rfl,fun n _ hn=>by simp [AV.names,one,AG,AC.names]⟩⟩
  · rename_i T mm k ho;cases hop;obtain ⟨c,m1,h1,h2⟩:=RM.bind_ok h;obtain ⟨ks,m2,h3,h4⟩:=RM.bind_ok h2;unfold Zo at h4
    split at h4
    case h_2=>exact (RM.fail_ok h4).elim
    rename_i d hd;obtain ⟨⟨q,en⟩,m5,h9,h10⟩:=RM.bind_ok h4;obtain ⟨e,rfl,hh,hfz,he,hmb⟩:=W5 h9;obtain ⟨kv,k1,k2,k3⟩:=Ya hs hf h3;refine ⟨_,_,(Option.some.inj (RM.ret_ok h10)).symm,fun _=>?_⟩;obtain ⟨w',r1,r2,r3,r4⟩:=ql hs ho (Bt hs hf h1).1 k1 k2 k3 hh hfz he hmb;exact ⟨_,β,σ,w',.inl r1,r2,r3.weaken (fun _ h=>h.elim),r4.weaken (fun _ h=>h.elim),rfl,.inl ⟨d,_,hd,rfl,⟨_,rfl,PQ rfl,PQ rfl,trivial⟩,fun n _ hn=>by simp [AV.names,BW,AG,AC.names]⟩⟩
  · rename_i T mm x v ho;cases hop;obtain ⟨c,m1,h1,h2⟩:=RM.bind_ok h;obtain ⟨x1,m2,h3,h4⟩:=RM.bind_ok h2;obtain ⟨i,m3,h5,h6⟩:=RM.bind_ok h4;obtain ⟨y1,m4,h7,h8⟩:=RM.bind_ok h6;obtain ⟨z,m5,h9,h10⟩:=RM.bind_ok h8;unfold ke at h10
    split at h10
    case h_2=>exact (RM.fail_ok h10).elim
    rename_i hd;obtain ⟨⟨q,en⟩,m6,h11,h12⟩:=RM.bind_ok h10;obtain ⟨e,rfl,hh,hfz,he,hmb⟩:=W5 h11;have hx:=Yg h5;subst hx;have hy:=Yg h9;subst hy;refine ⟨_,_,(Option.some.inj (RM.ret_ok h12)).symm,fun has=>?_⟩;obtain ⟨w',r1,r2,r3,r4⟩:=rQ hs ho (Bt hs hf h1).1 (Bt hs hf h3).1 (Bt hs hf h7).1 hh hfz he hmb (has _ List.mem_cons_self);exact ⟨undef,β,σ,w',.inr ⟨r1,rfl⟩,r2,r3.weaken (fun _ h=>h.elim),r4.weaken (fun _ h=>h.elim),rfl,.inr ⟨hd,rfl⟩⟩
  · cases hop
theorem QX {cfg : Cfg} {ctx : List (Nat × Bool)} {g : Option Bool} {o : Oper} {id : Nat} {r : StepRes (std E N)} {m m' : Nat}
    (h:RM.run s (gC P cfg ctx g o id) m=.ok (r,m')) :
    (∃ sp m1,g=none∧ME cfg o.op=some sp∧RM.run s (Sb P ctx id o.dst sp) m=.ok (some r,m1))∨∃ m1,RM.run s (Tn P cfg ctx g o id) m1=.ok (r,m'):=by
  unfold gC at h
  split at h
  · rename_i sp hsp;obtain ⟨x,m1,h1,h2⟩:=RM.bind_ok h;cases x with
    | some r' =>
      have:=RM.ret_ok h2;subst this;exact .inl ⟨sp,m1,rfl,hsp,h1⟩
    | none=>exact .inr ⟨m1,h2⟩
  · exact .inr ⟨m,h⟩
theorem fw {ctx:List (Nat×Bool)} {id:Nat} {d:Option Nat} {sp:Spec} {r:StepRes (std E N)} {m m':Nat} (h:RM.run s (Sb P ctx id d sp) m=.ok (some r,m')):∃ as wr,r=.plain as wr:=by
 have take:∀ {T:TypeId} {hi:Operand} {c:AC0 E N} {m:Nat},RM.run s (V7 P ctx id d T hi c) m=.ok (some r,m')→∃ as wr,r=.plain as wr:=fun {T hi c m} h=>by
  unfold V7 at h
  split at h
  ·obtain ⟨m1,h0⟩:=RM.h_ok h
   split at h0
   ·split at h0
    ·obtain ⟨b,m2,h1,h2⟩:=RM.bind_ok h0;exact ⟨_,_,(Option.some.inj (RM.ret_ok h2)).symm⟩
    ·cases RM.ret_ok h0
   ·exact (RM.fail_ok h0).elim
  ·cases RM.ret_ok h
 have tail:∀ {T:TypeId} {lo:Operand} {c:AC0 E N} {m:Nat},RM.run s (WG P ctx d T lo c) m=.ok (some r,m')→∃ as wr,r=.plain as wr:=fun {T lo c m} h=>by
  unfold WG at h
  split at h
  ·obtain ⟨m1,h0⟩:=RM.h_ok h
   split at h0
   ·split at h0
    ·obtain ⟨b,m2,h1,h2⟩:=RM.bind_ok h0;exact ⟨_,_,(Option.some.inj (RM.ret_ok h2)).symm⟩
    ·cases RM.ret_ok h0
   ·exact (RM.fail_ok h0).elim
  ·cases RM.ret_ok h
 cases sp with
 | take T x hi=>obtain ⟨c,m1,h1,h2⟩:=RM.bind_ok h;exact take h2
 | tail T x lo=>obtain ⟨c,m1,h1,h2⟩:=RM.bind_ok h;exact tail h2
 | clr T x =>
  obtain ⟨c,m1,h1,h2⟩:=RM.bind_ok h;unfold eZ at h2
  split at h2
  ·obtain ⟨m1,h0⟩:=RM.h_ok h2
   split at h0
   ·split at h0
    ·obtain ⟨_,m2,h3,h4⟩:=RM.bind_ok h0;obtain ⟨_,m3,h5,h6⟩:=RM.bind_ok h4;exact ⟨_,_,(Option.some.inj (RM.ret_ok h6)).symm⟩
    ·exact (RM.fail_ok h0).elim
   ·exact (RM.fail_ok h0).elim
  ·exact (RM.fail_ok h2).elim
 | mkMap T =>
  replace h:RM.run s (gE P ctx id d T (P.cellsOf (IH P T).1)) m=.ok (some r,m'):=h
  unfold gE at h
  split at h
  ·exact ⟨_,_,(Option.some.inj (RM.ret_ok h)).symm⟩
  ·exact (RM.fail_ok h).elim
 | mapUpd T mm k v =>
  obtain ⟨_,_,_,h⟩:=RM.bind_ok h;obtain ⟨_,_,_,h⟩:=RM.bind_ok h;obtain ⟨_,_,_,h⟩:=RM.bind_ok h;obtain ⟨_,_,_,h⟩:=RM.bind_ok h;unfold kZ at h
  split at h
  ·obtain ⟨_,_,_,h⟩:=RM.bind_ok h;exact ⟨_,_,(Option.some.inj (RM.ret_ok h)).symm⟩
  ·exact (RM.fail_ok h).elim
 | mapGet T mm k =>
  obtain ⟨_,_,_,h⟩:=RM.bind_ok h;obtain ⟨_,_,_,h⟩:=RM.bind_ok h;unfold TN at h
  split at h
  ·obtain ⟨_,_,_,h⟩:=RM.bind_ok h;exact ⟨_,_,(Option.some.inj (RM.ret_ok h)).symm⟩
  ·exact (RM.fail_ok h).elim
 | mapEnt T mm k =>
  obtain ⟨_,_,_,h⟩:=RM.bind_ok h;obtain ⟨_,_,_,h⟩:=RM.bind_ok h;unfold Zo at h
  split at h
  ·obtain ⟨_,_,_,h⟩:=RM.bind_ok h;exact ⟨_,_,(Option.some.inj (RM.ret_ok h)).symm⟩
  ·exact (RM.fail_ok h).elim
 | mapSto T mm x v =>
  obtain ⟨_,_,_,h⟩:=RM.bind_ok h;obtain ⟨_,_,_,h⟩:=RM.bind_ok h;obtain ⟨_,_,_,h⟩:=RM.bind_ok h;obtain ⟨_,_,_,h⟩:=RM.bind_ok h;obtain ⟨_,_,_,h⟩:=RM.bind_ok h;unfold ke at h
  split at h
  ·obtain ⟨_,_,_,h⟩:=RM.bind_ok h;exact ⟨_,_,(Option.some.inj (RM.ret_ok h)).symm⟩
  ·exact (RM.fail_ok h).elim
end
end Go.Px
end
section
namespace Go.Px
section
variable {E:Env} {N:Nat} {P:Program} {cfg:Cfg} {n0 n0':Nz} {nt:Nat} {β β':Nat→Option Nat} {σ σ':Nat→Option (Nat×Nat)} {s s':St0 E N} {a:Act} {w w':World}
theorem dK {o:Oper} (h:ko P o.op=true):0<BS P o:=by
 unfold ko at h;unfold BS;cases hop:o.op<;>rw [hop] at h<;>first | (exact Nat.one_pos) | (cases h;done) | skip
 rename_i c;simp only at h ⊢;cases hc:c.callee<;>rw [hc] at h<;>first | (exact Nat.one_pos) | cases h
theorem dN:∀ {gam:List CI} {f:Nat} {fns:List Nat} {ci:CI},So gam f fns=some ci→ci∈gam∧ci.f=f∧ci.fns=fns
 | c::l,f,fns,ci,h=>by
  simp only [So] at h
  split at h
  ·rename_i hb;cases h;simp only [Bool.and_eq_true] at hb;exact ⟨List.mem_cons_self,AD.1 hb.1,HR.1 hb.2⟩
  ·obtain ⟨h1,h2⟩:=dN h;exact ⟨List.mem_cons_of_mem _ h1,h2⟩
 | [],_,_,_,h=>by simp [So] at h
theorem SA {ctx : List (Nat × Bool)} {g : Option Bool} {id : Nat} {d : Option Nat} {f : FuncId} {caps : List (Nat × Nat)} {args : List (AV (std E N))} {sr : StepRes (std E N)} {m m' : Nat}
    (h:RM.run s (Yi (O:=std E N) P cfg ctx g id d f caps args) m=.ok (sr,m')) :
    (g=none∧sr=.inl f (args++caps.map fun (b,o)=>one (.ptr b o))) ∨
    (caps = [] ∧ ∃ fns ci fn ls fr u dm m2 m3, Hc args = some fns ∧ So cfg.gam f fns = some ci ∧ P.funcs[f]? = some fn ∧ fn.body.isSome = true ∧ (fn.name == "runtime.NumGoroutine") = false ∧ GH P fn.params.toList args = true ∧
      RM.run s (Kj (O:=std E N) ci.gives [] args) m2=.ok ((ls,fr,u),m3)∧Ws ci.gives u fr=true ∧
      sr=.call g f fns ls dm (fi P ctx g id d ci fn fr u)):=by
  unfold Yi at h;cases caps with
  | cons c0 cr=>cases g with
    | none=>exact .inl ⟨rfl,(RM.ret_ok h).symm⟩
    | some b=>exact (RM.fail_ok h).elim
  | nil=>cases g with
    | none =>
      simp only at h
      split at h
      · exact .inl ⟨rfl,(RM.ret_ok h).symm⟩
      · rename_i fns hfns
        split at h
        · exact .inl ⟨rfl,(RM.ret_ok h).symm⟩
        · rename_i ci hci
          split at h
          · exact (RM.fail_ok h).elim
          · rename_i fn hfn;obtain ⟨_,m1,h1,h2⟩:=RM.bind_ok h;obtain ⟨⟨ls,fr,u⟩,m2,h3,h4⟩:=RM.bind_ok h2;have hg:=RM.guard_ok h1;simp only [Bool.and_eq_true,Bool.not_eq_true'] at hg;simp only at h4
            split at h4
            · rename_i dm hdm hnone;have:=RM.ret_ok h4;exact .inr ⟨rfl,fns,ci,fn,ls,fr,u,dm,m1,m2,hfns,hci,hfn,hg.1.1,hg.1.2,hg.2,h3,hnone,this.symm⟩
            · exact (RM.fail_ok h4).elim
    | some b =>
      simp only at h
      split at h
      · exact (RM.fail_ok h).elim
      · rename_i fns hfns
        split at h
        · exact (RM.fail_ok h).elim
        · rename_i ci hci
          split at h
          · exact (RM.fail_ok h).elim
          · rename_i fn hfn;obtain ⟨_,m1,h1,h2⟩:=RM.bind_ok h;obtain ⟨⟨ls,fr,u⟩,m2,h3,h4⟩:=RM.bind_ok h2;have hg:=RM.guard_ok h1;simp only [Bool.and_eq_true,Bool.not_eq_true'] at hg;simp only at h4
            split at h4
            · rename_i dm hdm hnone;have:=RM.ret_ok h4;exact .inr ⟨rfl,fns,ci,fn,ls,fr,u,dm,m1,m2,hfns,hci,hfn,hg.1.1,hg.1.2,hg.2,h3,hnone,this.symm⟩
            · exact (RM.fail_ok h4).elim
theorem VX {ops : Array Oper} {o : Oper} {i id : Nat} {done : List Nat} {Q : Exit → Act → World → Prop} {K : Act → World → Prop} {as : List Bool} {wr : Wr (std E N)} {m m' : Nat}
    (hs:Sim P n0 nt β σ s a w) (gi:GI s done) (hg:∀ j want d,o.guard=some (j,want)→(ops[j]?).bind (·.dst)=some d→d∈done) (hdst:∀ d,o.dst=some d→d∉done∧d<nt)
    (hid:∀ n,id≤n→n<id+BS P o→Fresh a s n) (ho:ops[i]?=some o) (h:RM.run s (FW P cfg ops.toList o id) m=.ok (.plain as wr,m')) (has:∀ b∈as,b=true)
    (hK:∀ a' w',After P n0 nt (fun n=>id≤n∧n<id+BS P o) β σ s a w o.dst wr a' w'→GI (s.apply wr) (o.dst.toList++done)→K a' w'):wpOp P ops Q i K a w:=by
  unfold FW at h;obtain ⟨ctx,m1,h1,h2⟩:=RM.bind_ok h;obtain ⟨g,m2,h3,h4⟩:=RM.bind_ok h2;obtain ⟨c1,c2,c3⟩:=f9 hs gi h1 hg;have hnew:∀ n,(id≤n∧n<id+BS P o)→Fresh a s n:=fun n h=>hid n h.1 h.2
  have goW:∀ (hw:Region.wanted o (yielded ops a.tmps)=true),o.wp P a w K Q→wpOp P ops Q i K a w:=fun hw h=>by
    unfold wpOp;simp only [ho,hw,if_true];exact .inl h
  have goN:∀ (hw:¬ Region.wanted o (yielded ops a.tmps)=true),K (a.put o.dst undef) w→wpOp P ops Q i K a w:=fun hw h=>by
    unfold wpOp;simp only [ho,hw,if_false];exact h
  have hcases:=QX h4;clear h4
  rcases hcases with ⟨sp,mm,hg0,hsp,h5⟩ | ⟨mm,h4⟩
  · have hctx:ctx=[]:=Hm (by rw [hg0] at h3;exact h3);subst hctx;have hf:Facts a []:=fun n b hm=>by simp at hm
    have hcnt:=aC (P:=P) hsp;obtain ⟨as',wr',hr,hok⟩:=cp hs hf (hid id (Nat.le_refl _) (by omega)) hsp h5;cases hr;obtain ⟨z,β',σ',w',r1,r2,r3,r4,r5,r6⟩:=hok has;have hw:∀ n,n=id→id≤n∧n<id+BS P o:=fun n h=>by omega
    refine goW (c1.2 hf) ?_;unfold Oper.wp
    suffices key:K (a.put o.dst z) w' by
      rcases r1 with r1 | ⟨r1,rfl⟩
      · rw [r1];exact key
      · rw [r1];exact key
    rcases r6 with ⟨d,c,hd,ht,hrel,hnm⟩ | ⟨hd,ht⟩
    · have hwr:wr={ ts:=[(d,some ⟨[],c⟩)],bs:=[],hs:=wr.hs }:=by cases wr;simp only at ht r5;subst ht;subst r5;rfl
      have hdd:=hdst d hd;rw [hd] at hK ⊢;rw [hwr] at hK;exact hK _ _ (Id (bs:=[]) hs gi hdd.1 hdd.2 hnew c2 r2 (r3.weaken hw) (r4.weaken hw) (.inl ⟨hf,hrel,fun n hn hnn=>hnm n hn (fun e=>hnn (hw n e))⟩)) (GI.put gi c2 rfl)
    · have hwr:wr={ ts:=[],bs:=[],hs:=wr.hs }:=by cases wr;simp only at ht r5;subst ht;subst r5;rfl
      rw [hd] at hK ⊢;rw [hwr] at hK;refine hK _ _ (UF hs hnew rfl r2 (r3.weaken hw) (r4.weaken hw)) ?_;intro n tv hn;rw [State.getT_apply0 s _ rfl] at hn;exact gi n tv hn
  unfold Tn at h4
  split at h4
  ·
    rename_i T x y hop
    split at h4
    · exact (RM.fail_ok h4).elim
    · have hctx:ctx=[]:=Hm h3;subst hctx;have hf:Facts a []:=fun n b hm=>by simp at hm
      obtain ⟨p,m3,h5,h6⟩:=RM.bind_ok h4;obtain ⟨v,m4,h7,h8⟩:=RM.bind_ok h6;obtain ⟨wr',m5,h9,h10⟩:=RM.bind_ok h8
      split at h10
      · rename_i hd;have hr:=RM.ret_ok h10;simp only [StepRes.plain.injEq] at hr;obtain ⟨rfl,rfl⟩:=hr;obtain ⟨hp,_,_⟩:=Bt hs hf h5;obtain ⟨hv,hvn⟩:=IP hs hf h7;obtain ⟨w',r1,r2,r3,r4,r5⟩:=kf (a:=a) hs.n0le hs.M hp hv.1 hvn h9;refine goW (c1.2 hf) ?_;unfold Oper.wp;have:(execOp a.eval o).run P w=.ok .skip w':=by simp [execOp,hop,r1]
        rw [this];show K (a.put o.dst undef) w';rw [hd];refine hK _ _ ?_ ?_
        · rw [hd];exact UF hs hnew r5 r2 (r3.weaken (fun n h=>h.elim)) (r4.weaken (fun n h=>h.elim))
        · rw [hd];intro n tv hn;rw [State.getT_apply0 s _ r5] at hn;exact gi n tv hn
      · exact (RM.fail_ok h10).elim
  ·
    obtain ⟨f,m3,h5,h6⟩:=RM.bind_ok h4
    split at h6
    · split at h6
      · exact (RM.fail_ok h6).elim
      · obtain ⟨_,m40,h60,h61⟩:=RM.bind_ok h6;obtain ⟨args,m4,h7,h8⟩:=RM.bind_ok h61
        rcases SA h8 with ⟨_,h9⟩ | ⟨_,fns,ci,fn,ls,fr,u,dm,m2,m3,_,_,_,_,_,_,_,_,h9⟩<;>cases h9
    · exact (RM.fail_ok h6).elim
  ·
    rename_i hmem _ _
    split at h4
    · rename_i d hd;have hctx:ctx=[]:=Hm h3;subst hctx;have hf:Facts a []:=fun n b hm=>by simp at hm
      obtain ⟨⟨as',c,wr'⟩,m3,h5,h6⟩:=RM.bind_ok h4;have hr:=RM.ret_ok h6;simp only [StepRes.plain.injEq] at hr;obtain ⟨rfl,rfl⟩:=hr;have hpos:=dK hmem;obtain ⟨z,β',σ',w',r1,r2,r3,r4,r5,r6,r7⟩:=oq hs hf (hid id (Nat.le_refl _) (by omega)) h5 has;have hwr:wr'={ bs:=wr'.bs,hs:=wr'.hs }:=by cases wr';simp only at r7;subst r7;rfl
      refine goW (c1.2 hf) ?_;unfold Oper.wp;rw [r1];show K (a.put o.dst z) w';rw [hd];have hdd:=hdst d hd;refine hK _ _ ?_ ?_
      · rw [hd];rw [hwr] at r2 r3 r4 r5;exact Id hs gi hdd.1 hdd.2 hnew c2 r2 (r3.weaken (fun n h=>by subst h;omega)) (r4.weaken (fun n h=>by subst h;omega)) (.inl ⟨hf,Aj r5,fun n hn hnn=>by
          have:=r6 n hn (fun e=>hnn (by subst e;omega));simpa [AV.names,one,AG] using this⟩)
      · rw [hd];exact GI.put gi c2 rfl
    · rename_i d hd;obtain ⟨c,m3,h5,h6⟩:=RM.bind_ok h4;have hr:=RM.ret_ok h6;simp only [StepRes.plain.injEq] at hr;obtain ⟨rfl,rfl⟩:=hr;have hpos:=dK hmem;have hdd:=hdst d hd
      by_cases hw:Region.wanted o (yielded ops a.tmps)=true
      · have hf:=c1.1 hw;obtain ⟨z,β',σ',w',r1,r2,r3,r4,r5,r6,r7⟩:=pB hs hf (hid id (Nat.le_refl _) (by omega)) h5;refine goW hw ?_;unfold Oper.wp;rw [r1];show K (a.put o.dst z) w';rw [hd];refine hK _ _ ?_ ?_
        · rw [hd];exact Id (bs:=[]) (hh:=[]) hs gi hdd.1 hdd.2 hnew c2 r2 (r3.weaken (fun n h=>by subst h;omega)) (r4.weaken (fun n h=>by subst h;omega)) (.inl ⟨hf,Aj r5,fun n hn hnn=>by
            have:=r6 n hn (fun e=>hnn (by subst e;omega));simpa [AV.names,one,AG] using this⟩)
        · rw [hd];exact GI.put gi c2 rfl
      · refine goN hw ?_;rw [hd];have sub:Sub s (s.apply ({}:Wr (std E N))):=Sub.of_same (fun n=>State.getB_apply0 s _ rfl n) (fun n=>State.getH_apply0 s _ rfl n);refine hK _ _ ?_ ?_
        · rw [hd];exact Id (bs:=[]) (hh:=[]) hs gi hdd.1 hdd.2 hnew c2 (sub.mem hs.M) (sub.ext P _ β σ w) (Tidy.of_sub (fr:=[]) (fun _ _ h=>by simp at h) rfl rfl rfl _) (.inr ⟨fun h=>hw (c1.2 h),rfl⟩)
        · rw [hd];exact GI.put gi c2 rfl
    · exact (RM.fail_ok h4).elim
  ·
    split at h4
    · rename_i d hd;obtain ⟨⟨as',v,fr⟩,m3,h5,h6⟩:=RM.bind_ok h4;obtain ⟨fr',m4,h7,h8⟩:=RM.bind_ok h6;have hr:=RM.ret_ok h8;simp only [StepRes.plain.injEq] at hr;obtain ⟨rfl,rfl⟩:=hr;obtain ⟨f1,f2⟩:=XZ h7;have hdd:=hdst d hd;have sub:=f1.sub (wr:={ bs:=[],hs:=fr' }) rfl rfl
      by_cases hw:Region.wanted o (yielded ops a.tmps)=true
      · have hf:=c1.1 hw;refine goW hw ?_;have hgt:∀ b,g=some b→b=true:=VS hs hf h3;obtain ⟨z,r1,r2,r3,r4⟩:=mB hs hf h5 (fun b hb=>by
          have:=has (bX g b) (List.mem_map.2 ⟨b,hb,rfl⟩);unfold bX at this;cases g with
          | none=>exact this
          | some g=>have:=hgt g rfl;subst this;simpa using this)
        have:=f2 r4;subst this;unfold Oper.wp;rw [r1];show K (a.put o.dst z) w;rw [hd];refine hK _ _ ?_ ?_
        · rw [hd];exact Id (bs:=[]) hs gi hdd.1 hdd.2 hnew c2 (sub.mem hs.M) (sub.ext P _ β σ w) (Tidy.of_sub f1.pre rfl rfl rfl _) (.inl ⟨hf,r2,fun n hn _=>r3 n hn⟩)
        · rw [hd];exact GI.put gi c2 rfl
      · refine goN hw ?_;rw [hd];refine hK _ _ ?_ ?_
        · rw [hd];exact Id (bs:=[]) hs gi hdd.1 hdd.2 hnew c2 (sub.mem hs.M) (sub.ext P _ β σ w) (Tidy.of_sub f1.pre rfl rfl rfl _) (.inr ⟨fun h=>hw (c1.2 h),rfl⟩)
        · rw [hd];exact GI.put gi c2 rfl
    · exact (RM.fail_ok h4).elim
end
end Go.Px
end
section
namespace Go.Px
section
variable {E:Env} {N:Nat} {P:Program} {cfg:Cfg} {n0 n0':Nz} {nt:Nat} {β β':Nat→Option Nat} {σ σ':Nat→Option (Nat×Nat)} {s s':St0 E N} {a:Act} {w w':World}
theorem YJ (hs : Sim P n0 nt β σ s a w) {ctx : List (Nat × Bool)} (hf : Facts a ctx) : ∀ {ts : List TypeId} {xs : List Operand} {vs : List (AV (std E N))} {m m' : Nat}, RM.run s (ZN (O := std E N) P ctx ts xs) m = .ok (vs, m') →
    RelArgs P n0 β σ s w vs (xs.map a.eval)
  | [],[],vs,m,m',h=>by cases RM.ret_ok h;trivial
  | t::ts,x::xs,vs,m,m',h=>by
    obtain ⟨v,m1,h1,h2⟩:=RM.bind_ok h;obtain ⟨r,m2,h3,h4⟩:=RM.bind_ok h2;cases RM.ret_ok h4;exact ⟨(RS hs hf h1).1,YJ hs hf h3⟩
  | [],_::_,_,_,_,h=>(RM.fail_ok h).elim
  | _::_,[],_,_,_,h=>(RM.fail_ok h).elim
theorem qB {c:AC0 E N} {l:AX} {fr:List (Nat×Option (HEnt (std E N)))} {nw:Bool} {k k':Nat} (h:RM.run s (bT (O:=std E N) c) k=.ok ((l,fr,nw),k')):FrOK s fr:=by
 have nil:FrOK s ([]:List (Nat×Option (HEnt (std E N)))):=fun _ _ hm=>by simp at hm
 cases c with
 | own e id =>
  obtain ⟨k1,h⟩:=RM.h_ok h;cases hh:s.getH id with
  | none=>rw [hh] at h;exact (RM.fail_ok h).elim
  | some en =>
   rw [hh] at h;cases RM.ret_ok h;intro n v hm;simp only [List.mem_singleton,Prod.mk.injEq] at hm;obtain ⟨rfl,rfl⟩:=hm;exact ⟨en,hh,rfl⟩
 | int _ _=>cases RM.ret_ok h;exact nil
 | bool _=>cases RM.ret_ok h;exact nil
 | str _=>cases RM.ret_ok h;exact nil
 | nil _=>cases RM.ret_ok h;exact nil
 | imm _ _ _=>cases RM.ret_ok h;exact nil
 | _=>exact (RM.fail_ok h).elim
theorem ei:∀ {cs:List (AC0 E N)} {ls:List AX} {fr:List (Nat×Option (HEnt (std E N)))} {nw:Bool} {k k':Nat},RM.run s (MO (O:=std E N) cs) k=.ok ((ls,fr,nw),k')→FrOK s fr
 | [],ls,fr,nw,k,k',h=>by cases RM.ret_ok h;exact fun _ _ hm=>by simp at hm
 | c::cs,ls,fr,nw,k,k',h=>by
  obtain ⟨⟨l,f1,n1⟩,k1,h1,h2⟩:=RM.bind_ok h;obtain ⟨⟨ls2,f2,n2⟩,k2,h3,h4⟩:=RM.bind_ok h2;cases RM.ret_ok h4;exact (qB h1).append (ei h3)
theorem Td:∀ {args:List (AV (std E N))} {gives:List Bool} {used u:List Nat} {ls:List AX} {fr:List (Nat×Option (HEnt (std E N)))} {k k':Nat},RM.run s (Kj (O:=std E N) gives used args) k=.ok ((ls,fr,u),k')→FrOK s fr
 | [],gives,used,u,ls,fr,k,k',h=>by cases RM.ret_ok h;exact fun _ _ hm=>by simp at hm
 | .tup y::args,gives,used,u,ls,fr,k,k',h=>by
  unfold Kj at h;exact (RM.fail_ok h).elim
 | .val y::args,gives,used,u,ls,fr,k,k',h=>by
  cases hy:fnV y with
  | some f =>
   have:=gn hy;subst this;exact Td (gives:=gives.tail) h
  | none =>
   rw [dT hy] at h
   split at h
   ·obtain ⟨⟨ls1,u1⟩,k1,h1,h2⟩:=RM.bind_ok h;obtain ⟨⟨ls2,fr2,u2⟩,k2,h3,h4⟩:=RM.bind_ok h2;cases RM.ret_ok h4;exact Td h3
   ·obtain ⟨⟨ls1,f1,nw1⟩,k1,h1,h2⟩:=RM.bind_ok h;obtain ⟨⟨ls2,fr2,u2⟩,k2,h3,h4⟩:=RM.bind_ok h2;cases RM.ret_ok h4;exact (ei h1).append (Td h3)
theorem RK {nw:Bool} {c:List PV}:∀ {ts:List TypeId} {j q:Nat} {cs:List (AC0 E N)} {hs:List (Nat×HEnt (std E N))},Am (O:=std E N) P (fun _=>false) nw c j q ts=some (cs,hs)→hs=[]
 | [],j,q,cs,hs,h=>by simp only [Am] at h;cases h;rfl
 | t::ts,j,q,cs,hs,h=>by
  simp only [Am] at h
  split at h<;>first
   | (obtain ⟨⟨r,hh⟩,h1,h2⟩:=Option.map_eq_some_iff.1 h;cases h2;exact RK h1)
   | cases h
theorem ST {nw:Bool} {c:List PV}:∀ {ts:List TypeId} {j q:Nat} {vs:List (Val (std E N))} {hs:List (Nat×HEnt (std E N))},BB (O:=std E N) P (fun _=>false) nw c j q ts=some (vs,hs)→hs=[]
 | [],j,q,vs,hs,h=>by simp only [BB] at h;cases h;rfl
 | t::ts,j,q,vs,hs,h=>by
  simp only [BB] at h
  split at h
  ·cases h
  ·split at h
   ·cases h
   ·rename_i cs h1 hc
    split at h
    ·cases h
    ·rename_i vs2 h2 hv;cases h;rw [RK hc,ST hv];rfl
def lJ {α:Type} (g:Option α) (b:Bool):Bool:=match g with
 | none=>b
 | some _=>false
theorem qS {α:Type} (g:Option α) (ci:CI):pU g ci.ow=CI.ow { ci with own:=lJ g ci.own }:=by cases g<;>rfl
theorem jR {ci:CI} (h:Bd P E N ci∧Bd P E N { ci with own:=false }) (g:Option Bool):Bd P E N { ci with own:=lJ g ci.own }:=by
 cases g with
 | none=>exact h.1
 | some b=>exact h.2
theorem lu {q len:Nat} {nw:Bool} {c:AC0 E N} (h:OkC q len nw c):∀ n∈c.names,q≤n∧n<q+len:=by
 intro n hn;cases c with
 | own e k=>simp only [AC.names,List.mem_singleton] at hn;subst hn;exact h
 | int _ _=>simp [AC.names] at hn
 | bool _=>simp [AC.names] at hn
 | str _=>simp [AC.names] at hn
 | imm _ _ _=>simp [AC.names] at hn
 | _=>exact h.elim
theorem OP:∀ {vs:List (Val (std E N))} {n:Nat},n∈BW vs→∃ v∈vs,n∈AG v.cs
 | v::vs,n,h=>by
  simp only [BW,List.mem_append] at h
  rcases h with h | h
  ·exact ⟨v,List.mem_cons_self,h⟩
  ·obtain ⟨u,hu,hn⟩:=OP h;exact ⟨u,List.mem_cons_of_mem _ hu,hn⟩
theorem kQ {q len:Nat} {nw:Bool} {vs:List (Val (std E N))} (h:∀ v∈vs,∀ x∈v.cs,OkC q len nw x):∀ n∈(IR vs).names,q≤n∧n<q+len:=by
 intro n hn;have:∃ v∈vs,n∈AG v.cs:=by
  match vs,hn with
  | [x],hn=>exact ⟨x,List.mem_cons_self,hn⟩
  | [],hn=>exact OP hn
  | x::y::r,hn=>exact OP hn
 obtain ⟨v,hv,hm⟩:=this;obtain ⟨c,hc,hm⟩:=A9.1 hm;exact lu (h v hv c hc) n hm
theorem Xw {ops : Array Oper} {o : Oper} {i id : Nat} {done : List Nat} {Q : Exit → Act → World → Prop} {K : Act → World → Prop} {g : Option Bool} {f : FuncId} {fns : List Nat} {ls dm : List AX} {next : List PV → Option (Wr (std E N))} {wr : Wr (std E N)} {m m' : Nat}
    (hΓ:∀ ci∈cfg.gam,Bd P E N ci∧Bd P E N { ci with own:=false })
    (hs:Sim P n0 nt β σ s a w) (gi:GI s done) (hg:∀ j want d,o.guard=some (j,want)→(ops[j]?).bind (·.dst)=some d→d∈done) (hdst:∀ d,o.dst=some d→d∉done∧d<nt)
    (hid:∀ n,id≤n→n<id+BS P o→Fresh a s n) (ho:ops[i]?=some o) (h:RM.run s (FW P cfg ops.toList o id) m=.ok (.call g f fns ls dm next,m'))
    {c:List PV} (hm:(match g with | none=>E f fns (ls.map Leaf.pv) | some b=>if b then E f fns (ls.map Leaf.pv) else some (dm.map Leaf.pv))=some c) (hn:next c=some wr)
    (hK:∀ a' w',After P n0 nt (fun n=>id≤n∧n<id+BS P o) β σ s a w o.dst wr a' w'→GI (s.apply wr) (o.dst.toList++done)→K a' w'):wpOp P ops Q i K a w:=by
  unfold FW at h;obtain ⟨ctx,m1,h1,h2⟩:=RM.bind_ok h;obtain ⟨g',m2,h3,h4⟩:=RM.bind_ok h2;obtain ⟨c1,c2,c3⟩:=f9 hs gi h1 hg;have hnew:∀ n,(id≤n∧n<id+BS P o)→Fresh a s n:=fun n h=>hid n h.1 h.2
  have hcases:=QX h4;clear h4
  rcases hcases with ⟨sp,mm,hg0,hsp,h5⟩ | ⟨mm,h4⟩
  · have hctx:ctx=[]:=Hm (by rw [hg0] at h3;exact h3);subst hctx;have hcnt:=aC (P:=P) hsp;obtain ⟨as',wr',hr,hok⟩:=cp hs (fun n b hm=>by simp at hm) (hid id (Nat.le_refl _) (by omega)) hsp h5;cases hr
  unfold Tn at h4
  split at h4
  · split at h4
    · exact (RM.fail_ok h4).elim
    · obtain ⟨p,m3,h5,h6⟩:=RM.bind_ok h4;obtain ⟨v,m4,h7,h8⟩:=RM.bind_ok h6;obtain ⟨wr',m5,h9,h10⟩:=RM.bind_ok h8
      split at h10
      · cases RM.ret_ok h10
      · exact (RM.fail_ok h10).elim
  · rename_i fop args tys hop;obtain ⟨fv,m3,h5,h6⟩:=RM.bind_ok h4
    split at h6
    case h_2=>exact (RM.fail_ok h6).elim
    rename_i f' caps
    split at h6
    case h_1=>exact (RM.fail_ok h6).elim
    rename_i fn0 hfn0;obtain ⟨_,m40,h60,h61⟩:=RM.bind_ok h6;obtain ⟨avs,m4,h7,h8⟩:=RM.bind_ok h61
    rcases SA h8 with ⟨_,h9⟩ | ⟨hcaps,fns',ci,fn,ls',fr,u,dm',m2,m3,q1,q2,q3,q4,q5,q6,q7,q8,h9⟩
    · cases h9
    · cases h9;subst hcaps;obtain ⟨ciM,ciF,ciN⟩:=dN q2;have hcnt:BS P o=16:=by unfold BS;rw [hop]
      have hfr:=Td q7;unfold fi at hn
      split at hn
      · cases hn
      · rename_i vs nh hb
        split at hn
        case h_2=>cases hn
        rename_i hle;have hle:=Nat.le_of_ble_eq_true hle;cases hn;obtain ⟨row1,okh,okc⟩:=QH hb;generalize hHS:(match ci.nw with | true=>[] | false=>fr)++(u.map (fun n=>(n,none))++nh.map fun (n,h)=>(n,some h))=HS at hK;have hnames:∀ n,¬ (id≤n∧n<id+BS P o)→n∉(IR vs).names:=fun n hn hm=>hn (by
          have:=kQ okc n hm;omega)
        have fin : ∀ (z : Value) (w' : World) (β' : Nat → Option Nat) (σ' : Nat → Option (Nat × Nat)), Mem P n0 β' σ' (s.apply { bs := [], hs := HS }) w' → Ext P (fun n => id ≤ n ∧ n < id + BS P o) β σ s w β' σ' (s.apply { bs := [], hs := HS }) w' →
            Tidy a (fun n=>id≤n∧n<id+BS P o) s (s.apply { bs:=[],hs:=HS }) →
            ((Facts a ctx∧RelAV P n0 β' σ' (s.apply { bs:=[],hs:=HS }) w' (IR vs) z)∨(¬ Facts a ctx∧z=undef))→K (a.put o.dst z) w':=fun z w' β' σ' hm hx ht hz=>by
          cases hd:o.dst with
          | some d =>
            rw [hd] at hK;have hdd:=hdst d hd;exact hK _ _ (Id (bs:=[]) hs gi hdd.1 hdd.2 hnew c2 hm hx ht (hz.imp (fun h=>⟨h.1,h.2,fun n _ hn=>hnames n hn⟩) (fun h=>h))) (GI.put gi c2 rfl)
          | none =>
            rw [hd] at hK;refine hK _ _ (UF hs hnew rfl hm hx ht) ?_;intro n tv hn;rw [State.getT_apply0 s _ rfl] at hn;exact gi n tv hn
        by_cases hw:Region.wanted o (yielded ops a.tmps)=true
        · have hf:=c1.1 hw;have hgt:∀ b,g=some b→b=true:=VS hs hf h3;have hE:E f fns (ls.map Leaf.pv)=some c:=by
            cases g with
            | none=>exact hm
            | some b=>have:=hgt b rfl;subst this;simpa using hm
          have hfv:=(RS hs hf h5).1;have hargs:=YJ hs hf h7;have hval:Bd P E N { ci with own:=lJ g ci.own }:=jR (hΓ ci ciM) g;have hev:a.eval fop=.func (.func f) #[] #[]:=by
            obtain ⟨hr1,hr2⟩:=hfv;have hr2:(a.eval fop).oneCell'=true:=hr2;rw [BE hr2] at hr1;obtain ⟨vs2,e1,e2,_⟩:=hr1.1;have:vs2=[]:=List.length_eq_zero_iff.1 (by simpa using e2);subst this;exact e1
          have hnb:fn.body.isNone=false:=by cases hb:fn.body<;>simp_all
          have hex:(execOp a.eval o).run P w=.ok (.enter f (args.map a.eval)) w:=by
            simp only [beq_eq_false_iff_ne,ne_eq] at q5;simp [execOp,hop,resolve,Deferred.ofValue,hev,invoke,callFunc,q3,q5,hnb];intro hbn;rw [hbn] at q4;cases q4
          rw [qS g ci] at hb;have hcall:=qM (a:=a) hs.n0le hs.M hs.kept hval (fn:=fn) (by rw [← ciF] at q3;exact q3) hargs q6 (by rw [← ciN] at q1;exact q1) q7 q8 (rs:=c) (by show E ci.f ci.fns _=_;rw [ciF,ciN];exact hE) (id:=id) hb
            (fun n h1 h2=>hid n h1 (by omega)) (wr:={ bs:=[],hs:=HS }) rfl rfl hHS.symm
          unfold wpOp;simp only [ho,hw,if_true];refine .inl ?_;unfold Oper.wp;rw [hex];have harr:(args.toList.map a.eval).toArray=args.map a.eval:=by apply Array.ext';simp
          rw [harr] at hcall;rw [show ({ ci with own:=lJ g ci.own }:CI).f=f from ciF] at hcall;refine Calls.mono hcall (fun e w' hp=>?_);cases e with
          | panicked ch=>exact hp.elim
          | outgrown=>exact hp.elim
          | returned v =>
            obtain ⟨σ',r1,r2,r3,r4⟩:=hp;exact fin v w' β σ' r1 (r2.weaken (fun n h=>⟨h.1,by omega⟩)) (r3.weaken (fun n h=>⟨h.1,by omega⟩)) (.inl ⟨hf,r4⟩)
        · have hgs : ∃ b, g = some b := by
            cases g with
            | none=>exact (hw (c1.2 (by rw [Hm h3];intro n b hm;simp at hm))).elim
            | some b=>exact ⟨b,rfl⟩
          obtain ⟨b,hgb⟩:=hgs;have hnh:nh=[]:=by rw [hgb] at hb;exact ST hb
          have hpre:PreOK s HS:=by
            rw [← hHS,hnh];intro n v hm
            rcases List.mem_append.1 hm with hm | hm
            · split at hm
              · simp at hm
              · exact .inr (hfr n v hm)
            · rcases List.mem_append.1 hm with hm | hm
              · obtain ⟨k,_,e⟩:=List.mem_map.1 hm;cases e;exact .inl rfl
              · simp at hm
          have sub:=hpre.sub (wr:={ bs:=[],hs:=HS }) rfl rfl;unfold wpOp;simp only [ho,hw,if_false];exact fin undef w β σ (sub.mem hs.M) (sub.ext P _ β σ w) (Tidy.of_sub hpre rfl rfl rfl _) (.inr ⟨fun h=>hw (c1.2 h),rfl⟩)
  · split at h4
    · obtain ⟨⟨as',c',wr'⟩,m3,h5,h6⟩:=RM.bind_ok h4;cases RM.ret_ok h6
    · obtain ⟨c',m3,h5,h6⟩:=RM.bind_ok h4;cases RM.ret_ok h6
    · exact (RM.fail_ok h4).elim
  · split at h4
    · obtain ⟨⟨as',v,fr⟩,m3,h5,h6⟩:=RM.bind_ok h4;obtain ⟨fr',m4,h7,h8⟩:=RM.bind_ok h6;cases RM.ret_ok h8
    · exact (RM.fail_ok h4).elim
end
end Go.Px
end
section
namespace Go.Px
section
variable {E:Env} {N:Nat} {P:Program} {cfg:Cfg} {n0 n0':Nz} {nt:Nat} {β β':Nat→Option Nat} {σ σ':Nat→Option (Nat×Nat)} {s s':St0 E N} {a:Act} {w w':World}
structure Post (P : Program) (n0 : Nz) (nt L : Nat) (D : Nat → Prop) (β : Nat → Option Nat) (σ : Nat → Option (Nat × Nat)) (s : St0 E N) (a : Act) (w : World)
    (β':Nat→Option Nat) (σ':Nat→Option (Nat×Nat)) (s':St0 E N) (a':Act) (w':World):Prop where
  sim:Sim P n0 nt β' σ' s' a' w'
  ext:Ext P (fun n=>L≤n) β σ s w β' σ' s' w'
  cleanB:∀ n e,s'.getB n=some e→e.dirty=false→s.getB n=some e
  cleanH:∀ n e,s'.getH n=some e→e.dirty=false→s.getH n=some e
  defers:a'.defers=a.defers
  tmps:∀ n,¬ D n→a'.tmps.getD n undef=a.tmps.getD n undef
theorem Post.trans {L L' : Nat} {D D' : Nat → Prop} {β'' : Nat → Option Nat} {σ'' : Nat → Option (Nat × Nat)} {s'' : St0 E N} {a' a'' : Act} {w'' : World} (h : Post P n0 nt L D β σ s a w β' σ' s' a' w') (k : Post P n0 nt L' D' β' σ' s' a' w' β'' σ'' s'' a'' w'') (hl : L ≤ L') :
    Post P n0 nt L (fun n=>D n∨D' n) β σ s a w β'' σ'' s'' a'' w'' :=
  ⟨k.sim,(h.ext.trans k.ext).weaken (fun n hn=>hn.elim (fun h=>h) (fun h=>Nat.le_trans hl h)),fun n e h1 h2=>h.cleanB n e (k.cleanB n e h1 h2) h2,fun n e h1 h2=>h.cleanH n e (k.cleanH n e h1 h2) h2,
    k.defers.trans h.defers,fun n hn=>(k.tmps n (fun h=>hn (.inr h))).trans (h.tmps n (fun h=>hn (.inl h)))⟩
theorem P5:∀ {as:List Bool} {m:Option (List PV)} {r:List PV},RC (O:=std E N) as m=some r→(∀ b∈as,b=true)∧m=some r
 | [],m,r,h=>⟨fun b hb=>by simp at hb,h⟩
 | b::as,m,r,h=>by
  have h':(cond b (RC (O:=std E N) as m) none)=some r:=h;cases b with
  | false=>simp at h'
  | true =>
   obtain ⟨h1,h2⟩:=P5 (as:=as) (by simpa using h');exact ⟨fun b hb=>(List.mem_cons.1 hb).elim (fun e=>e) (h1 b),h2⟩
def Ju (s:St0 E N) (n:Nat):Prop:=(∀ k e,s.getB k=some e→n≠k∧n∉AG e.cs)∧∀ k e,s.getH k=some e→n≠k
abbrev Inl (E:Env) (N:Nat):=FuncId→List (AV (std E N))→St0 E N→(AV (std E N)→St0 E N→Option (List PV))→Option (List PV)
def eT (P:Program) (inl:Inl E N):Prop :=
  ∀ f (args:List (AV (std E N))) (s:St0 E N) k r,inl f args s k=some r→∀ (n0:Nz) β σ (w:World) (vals:List Value),n0.n≤w.heap.size→Mem P n0 β σ s w→Kept P β σ s w →
    (∀ n,s.st≤n→Ju s n)→(∀ x∈args,∀ n∈x.names,n<s.st)→RelArgs P n0 β σ s w args vals →
    Calls P f vals.toArray w fun
      | .returned v, w' => ∃ (av : AV (std E N)) (s' : St0 E N) (β' : Nat → Option Nat) (σ' : Nat → Option (Nat × Nat)), k av s' = some r ∧ s'.tm = s.tm ∧ s.st ≤ s'.st ∧ Mem P n0 β' σ' s' w' ∧ Ext P (fun n => s.st ≤ n) β σ s w β' σ' s' w' ∧
          (∀ n e,s'.getB n=some e→e.dirty=false→s.getB n=some e)∧(∀ n e,s'.getH n=some e→e.dirty=false→s.getH n=some e) ∧
          RelAV P n0 β' σ' s' w' av v∧∀ n,s'.st≤n→Ju s' n∧n∉av.names
      | _,_=>False
theorem After.post {id : Nat} {dst : Option Nat} {wr : Wr (std E N)} {a' : Act} {n : Nat} (h : After P n0 nt (fun k => id ≤ k ∧ k < id + n) β σ s a w dst wr a' w') :
    ∃ β' σ',Post P n0 nt id (fun k=>dst=some k) β σ s a w β' σ' (s.apply wr) a' w'∧(∀ k,(∀ j,id≤j→Fresh a s j)→id+n≤k→Fresh a' (s.apply wr) k):=by
  obtain ⟨β',σ',h1,h2,h3,h4,h5,h6,h7⟩:=h;exact ⟨β',σ',⟨h1,h2.weaken (fun k h=>h.1),h4,h5,h6,fun k hk=>h7 k hk⟩,fun k hf hk=>h3 k (hf k (by omega)) (by omega)⟩
theorem dC {ops:List Oper}:∀ {rest:List Oper} {i:Nat} {bs:List Nat},Dx ops i bs rest=true→∀ (k:Nat) (o:Oper),rest[k]?=some o→∀ j want,o.guard=some (j,want)→j<i+k
 | o::rest,i,b::bs,h,k,o',hk,j,want,hg=>by
  simp only [Dx] at h;cases k with
  | zero =>
   simp at hk;subst hk;rw [hg] at h;simp only [Bool.and_eq_true] at h;exact BV.1 h.1.1.1
  | succ k =>
   have h2:Dx ops (i+1) bs rest=true:=by
    split at h
    ·exact h
    ·simp only [Bool.and_eq_true] at h;exact h.2
   have:=dC h2 k o' (by simpa using hk) j want hg;omega
 | [],_,_,_,k,o',hk,_,_,_=>by simp at hk
 | _::_,_,[],h,_,_,_,_,_,_=>by simp [Dx] at h
theorem Mq:∀ (a b:List Oper),Aa (a++b)=Aa a++Aa b
 | [],b=>rfl
 | o::a,b=>by
  simp only [List.cons_append,Aa,Mq a b];cases o.dst<;>rfl
theorem Hl:∀ {l:List Oper} {k:Nat} {o:Oper} {d:Nat},l[k]?=some o→o.dst=some d→d∈Aa l
 | x::l,0,o,d,h,hd=>by
  simp at h;subst h;simp [Aa,hd]
 | x::l,k+1,o,d,h,hd=>by
  have:=Hl (l:=l) (k:=k) (by simpa using h) hd;simp only [Aa];cases x.dst with
  | none=>exact this
  | some y=>exact List.mem_cons_of_mem _ this
 | [],k,o,d,h,_=>by simp at h
theorem GI.mono {d d':List Nat} (gi:GI s d) (h:∀ x∈d,x∈d'):GI s d':=fun n tv hn g hg=>h _ (gi n tv hn g hg)
theorem X9 (hs : Sim P n0 nt β σ s a w) {ctx : List (Nat × Bool)} (hf : Facts a ctx) : ∀ {ts : List TypeId} {xs : List Operand} {vs : List (AV (std E N))} {m m' : Nat}, RM.run s (ZN (O := std E N) P ctx ts xs) m = .ok (vs, m') →
    ∀ x∈vs,∀ n,Fresh a s n→n∉x.names
  | [],[],vs,m,m',h=>by cases RM.ret_ok h;intro x hx;simp at hx
  | t::ts,x::xs,vs,m,m',h=>by
    obtain ⟨v,m1,h1,h2⟩:=RM.bind_ok h;obtain ⟨r,m2,h3,h4⟩:=RM.bind_ok h2;cases RM.ret_ok h4;intro y hy
    rcases List.mem_cons.1 hy with rfl | hy
    · exact (RS hs hf h1).2
    · exact X9 hs hf h3 y hy
  | [],_::_,_,_,_,h=>(RM.fail_ok h).elim
  | _::_,[],_,_,_,h=>(RM.fail_ok h).elim
theorem RelArgs.append:∀ {xs ys:List (AV (std E N))} {us vs:List Value},RelArgs P n0 β σ s w xs us→RelArgs P n0 β σ s w ys vs→RelArgs P n0 β σ s w (xs++ys) (us++vs)
 | [],_,[],_,_,h=>h
 | x::xs,_,u::us,_,h,h'=>⟨h.1,RelArgs.append h.2 h'⟩
 | [],_,_::_,_,h,_=>h.elim
 | _::_,_,[],_,h,_=>h.elim
theorem Ext.relArgs (x:Ext P (fun _=>False) β σ s w β' σ' s' w'):∀ {xs:List (AV (std E N))} {vs:List Value},RelArgs P n0 β σ s w xs vs→RelArgs P n0 β' σ' s' w' xs vs
 | [],[],h=>h
 | y::xs,v::vs,h=>⟨x.relAV (fun _ _ h=>h) h.1,x.relArgs h.2⟩
 | [],_::_,h=>h.elim
 | _::_,[],h=>h.elim
theorem iT : ∀ {caps : List (Nat × Nat)} {vs : List Value}, vs.length = caps.length → (∀ (i b o : Nat), caps[i]? = some (b, o) → ∃ x : Value, vs[i]? = some x ∧ Js β s b o x) →
    RelArgs P n0 β σ s w (caps.map fun (b,o)=>(one (.ptr b o):AV (std E N))) vs
  | [],[],_,_=>trivial
  | (b,o)::caps,v::vs,hl,h=>by
    obtain ⟨x,hx,hr⟩:=h 0 b o rfl;simp at hx;subst hx;exact ⟨Aj hr,iT (by simpa using hl) (fun i b o hc=>by
      obtain ⟨y,hy,hr2⟩:=h (i+1) b o (by simpa using hc);exact ⟨y,by simpa using hy,hr2⟩)⟩
  | [],_::_,hl,_=>by simp at hl
  | _::_,[],hl,_=>by simp at hl
theorem kg {ops : Array Oper} {o : Oper} {id : Nat} {f : FuncId} {args : List (AV (std E N))} {m m' : Nat} (h : RM.run s (FW P cfg ops.toList o id) m = .ok (.inl f args, m')) :
    ∃ fop cargs tys caps avs fn m1 m2 m3 m4 m5,o.op=.call ⟨.value fop,cargs,tys⟩∧RM.run s (Zr (O:=std E N) ops.toList o) m=.ok ([],m1)∧RM.run s (ev (O:=std E N) P [] 0 fop) m2=.ok (.val ⟨false,[.fn f caps]⟩,m3) ∧
      P.funcs[f]? = some fn ∧ fn.body.isSome = true ∧ (fn.name == "runtime.NumGoroutine") = false ∧ RM.run s (ZN (O := std E N) P [] (fn.params.toList.take cargs.size) cargs.toList) m4 = .ok (avs, m5) ∧ args = avs ++ caps.map fun (b, o) => one (.ptr b o) := by
  unfold FW at h;obtain ⟨ctx,m1,h1,h2⟩:=RM.bind_ok h;obtain ⟨g',m2,h3,h4⟩:=RM.bind_ok h2;have hcases:=QX h4;clear h4
  rcases hcases with ⟨sp,mm,hg0,hsp,h5⟩ | ⟨mm,h4⟩
  · obtain ⟨as',wr',hr⟩:=fw h5;cases hr
  unfold Tn at h4
  split at h4
  · split at h4
    · exact (RM.fail_ok h4).elim
    · obtain ⟨p,m3,h5,h6⟩:=RM.bind_ok h4;obtain ⟨v,m4,h7,h8⟩:=RM.bind_ok h6;obtain ⟨wr',m5,h9,h10⟩:=RM.bind_ok h8
      split at h10
      · cases RM.ret_ok h10
      · exact (RM.fail_ok h10).elim
  · rename_i fop cargs tys hop;obtain ⟨fv,m3,h5,h6⟩:=RM.bind_ok h4
    split at h6
    case h_2=>exact (RM.fail_ok h6).elim
    rename_i f' caps
    split at h6
    case h_1=>exact (RM.fail_ok h6).elim
    rename_i fn0 hfn0;obtain ⟨_,m40,h60,h61⟩:=RM.bind_ok h6;obtain ⟨avs,m4,h7,h8⟩:=RM.bind_ok h61;have hg:=RM.guard_ok h60;simp only [Bool.and_eq_true,Bool.not_eq_true'] at hg
    rcases SA h8 with ⟨hgn,h9⟩ | ⟨hcaps,fns',ci,fn,ls',fr,u,dm',m2,m3,q1,q2,q3,q4,q5,q6,q7,q8,h9⟩
    · subst hgn;have hc:=Hm h3;subst hc;cases h9;exact ⟨fop,cargs,tys,caps,avs,fn0,_,_,_,_,_,hop,h1,h5,hfn0,hg.1,hg.2,h7,rfl⟩
    · cases h9
  · split at h4
    · obtain ⟨⟨as',c',wr'⟩,m3,h5,h6⟩:=RM.bind_ok h4;cases RM.ret_ok h6
    · obtain ⟨c',m3,h5,h6⟩:=RM.bind_ok h4;cases RM.ret_ok h6
    · exact (RM.fail_ok h4).elim
  · split at h4
    · obtain ⟨⟨as',v,fr⟩,m3,h5,h6⟩:=RM.bind_ok h4;obtain ⟨fr',m4,h7,h8⟩:=RM.bind_ok h6;cases RM.ret_ok h8
    · exact (RM.fail_ok h4).elim
theorem pu (hs : Sim P n0 nt β σ s a w) {done : List Nat} (gi : GI s done) {d : Nat} (hd : d ∉ done) (hdn : d < nt) {new : Nat → Prop} (hnew : ∀ n, new n → Fresh a s n) {s2 : St0 E N} (htm : s2.tm = s.tm)
    (x:Ext P new β σ s w β' σ' s2 w') (m:Mem P n0 β' σ' s2 w') {av:AV (std E N)} {z:Value} (hr:RelAV P n0 β' σ' s2 w' av z) :
    Sim P n0 nt β' σ' { s2 with tm:=F2 s2.tm d (some ⟨[],av⟩) } (a.put (some d) z) w':=by
  have gT:∀ n,({ s2 with tm:=F2 s2.tm d (some ⟨[],av⟩) }:St0 E N).getT n=if n=d∧d<DA then some ⟨[],av⟩ else s.getT n:=fun n=>by
    unfold State.getT;rw [← htm];exact DQ _ _ _ _
  have sub:Sub s2 ({ s2 with tm:=F2 s2.tm d (some ⟨[],av⟩) }:St0 E N):=Sub.of_same (fun _=>rfl) (fun _=>rfl);have x2:=sub.ext P (fun _=>False) β' σ' w';have ne:∀ {g:Nat×Bool},g.1∈done→g.1≠d:=fun hg e=>hd (e▸hg)
  refine ⟨Nat.le_trans hs.n0le x.size,by simp [Act.put,hs.size],fun n tv hn=>?_,sub.mem m,(hs.kept.ext x).ext x2⟩;rw [gT] at hn
  split at hn
  · rename_i he;cases hn;rw [he.1,KI (by rw [hs.size];exact hdn)];exact .inl ⟨fun n b hm=>by simp at hm,x2.relAV (fun _ _ h=>h) hr⟩
  · rename_i he;have hnd:n≠d:=fun e=>by
      by_cases hb:d<DA
      · exact he ⟨e,hb⟩
      · rw [e,gO hb] at hn;cases hn
    rw [EU hnd];have hg:∀ g∈tv.gs,g.1≠d:=fun g hg=>ne (gi n tv hn g hg)
    rcases hs.T n tv hn with ⟨h1,h2⟩ | ⟨h1,h2⟩
    · exact .inl ⟨(Fa hg).2 h1,x2.relAV (fun _ _ h=>h) (x.relAV (fun k hk hnw=>(hnew k hnw).t n tv hn h1 hk) h2)⟩
    · exact .inr ⟨fun h=>h1 ((Fa hg).1 h),h2⟩
theorem Tt (inl : Inl E N) (hInl : eT P inl) (hΓ : ∀ ci ∈ cfg.gam, Bd P E N ci ∧ Bd P E N { ci with own := false }) {ops : Array Oper} (hnd : (Aa ops.toList).Nodup)
    (hg:∀ (k:Nat) (o:Oper),ops.toList[k]?=some o→∀ j want,o.guard=some (j,want)→j<k) (hdn:∀ d∈Aa ops.toList,d<nt) {Q:Exit→Act→World→Prop} {r:List PV} :
    ∀ (rest pre:List Oper) (id:Nat) (s:St0 E N) (ms:List (Nat×Nat)) (k:St0 E N→List (Nat×Nat)→Option (List PV)) (β:Nat→Option Nat) (σ:Nat→Option (Nat×Nat)) (a:Act) (w:World),ops.toList=pre++rest →
      GK (O:=std E N) P cfg inl ops.toList false rest id s ms k=some r→Sim P n0 nt β σ s a w→GI s (Aa pre)→(∀ n,id≤n→Fresh a s n) →
      (∀ (s':St0 E N) (ms':List (Nat×Nat)) (id':Nat) (β':Nat→Option Nat) (σ':Nat→Option (Nat×Nat)) (a':Act) (w':World),k { s' with st:=id' } ms'=some r→Post P n0 nt id (fun n=>n∈Aa rest) β σ s a w β' σ' s' a' w'→id≤id'→(∀ n,id'≤n→Fresh a' s' n)→GI s' (Aa ops.toList)→Q .normal a' w') →
      wpOps P ops Q (List.range' pre.length rest.length) a w
  | [],pre,id,s,ms,k,β,σ,a,w,hops,h,hs,gi,hf,hQ=>by
    have:GK (O:=std E N) P cfg inl ops.toList false [] id s ms k=k { s with st:=id } ms:=rfl;rw [this] at h;refine hQ s ms id β σ a w h ⟨hs,Ext.refl _ _ _ _ _ _,fun n e h _=>h,fun n e h _=>h,rfl,fun _ _=>rfl⟩ (Nat.le_refl _) hf ?_;rw [hops];simpa using gi
  | o::rest,pre,id,s,ms,k,β,σ,a,w,hops,h,hs,gi,hf,hQ=>by
    have hgetL:ops.toList[pre.length]?=some o:=by rw [hops,List.getElem?_append_right (Nat.le_refl _)];simp
    have hget:ops[pre.length]?=some o:=by rw [← Array.getElem?_toList];exact hgetL
    have hdl:Aa ops.toList=Aa pre++(o.dst.toList++Aa rest):=by
      rw [hops,Mq];congr 1;simp only [Aa];cases o.dst<;>rfl
    rw [hdl] at hnd;have hnd2:=(List.nodup_append.1 hnd);have hdone:∀ j want d,o.guard=some (j,want)→(ops[j]?).bind (·.dst)=some d→d∈Aa pre:=fun j want d h1 h2=>by
      have hj:=hg pre.length o hgetL j want h1;obtain ⟨x,hx,hxd⟩:=Option.bind_eq_some_iff.1 h2;rw [← Array.getElem?_toList,hops,List.getElem?_append_left hj] at hx;exact Hl hx hxd
    have hdst:∀ d,o.dst=some d→d∉Aa pre∧d<nt:=fun d hd=>by
      refine ⟨fun hm=>hnd2.2.2 d hm d (by simp [hd]) rfl,hdn d (by rw [hdl];simp [hd])⟩
    have hpre2:ops.toList=(pre++[o])++rest:=by rw [hops];simp
    have hlen:(pre++[o]).length=pre.length+1:=by simp
    have hgi2:∀ {s':St0 E N},GI s' (o.dst.toList++Aa pre)→GI s' (Aa (pre++[o])):=fun {s'} g=>g.mono (fun x hx=>by
      rw [Mq]
      rcases List.mem_append.1 hx with h | h
      · refine List.mem_append_right _ ?_;simp only [Aa];cases hd:o.dst with
        | none=>rw [hd] at h;simp at h
        | some d=>rw [hd] at h;simpa using h
      · exact List.mem_append_left _ h)
    have next : ∀ (wr : Wr (std E N)) (ms2 : List (Nat × Nat)), GK (O := std E N) P cfg inl ops.toList false rest (id + BS P o) (s.apply wr) ms2 k = some r → ∀ a' w', After P n0 nt (fun n => id ≤ n ∧ n < id + BS P o) β σ s a w o.dst wr a' w' → GI (s.apply wr) (o.dst.toList ++ Aa pre) →
        wpOps P ops Q (List.range' (pre.length+1) rest.length) a' w':=fun wr ms2 h a' w' ha hg2=>by
      obtain ⟨β',σ',p1,p2⟩:=ha.post;rw [← hlen];refine Tt inl hInl hΓ (by rw [hdl];exact hnd) hg hdn rest (pre++[o]) (id+BS P o) (s.apply wr) ms2 k β' σ' a' w' hpre2 h p1.sim (hgi2 hg2) (fun n hn=>p2 n hf hn) (fun s' ms' id' β'' σ'' a'' w'' hk hp hle hf' hg'=>?_);have hpt:=p1.trans hp (Nat.le_add_right _ _);refine hQ s' ms' id' β'' σ'' a'' w'' hk ⟨hpt.sim,hpt.ext,hpt.cleanB,hpt.cleanH,hpt.defers,fun n hn=>hpt.tmps n (fun h=>hn ?_)⟩ (by omega) hf' hg';simp only [Aa]
      rcases h with h | h
      · rw [h];simp
      · cases o.dst with
        | none=>exact h
        | some d=>exact List.mem_cons_of_mem _ h
    rw [List.length_cons,List.range'_succ,wpOps_cons];unfold GK at h
    split at h
    · cases h
    · rename_i as wr rd hrun;obtain ⟨has,h2⟩:=P5 h;exact VX hs gi hdone hdst (fun n h1 _=>hf n h1) hget hrun has (fun a' w' ha hg2=>next wr _ h2 a' w' ha hg2)
    · rename_i g f fns args dm nx rd hrun;obtain ⟨c,hc,h2⟩:=Option.bind_eq_some_iff.1 h
      split at h2
      · cases h2
      · rename_i wr hn;exact Xw hΓ hs gi hdone hdst (fun n h1 _=>hf n h1) hget hrun (c:=c) (by
          cases g with
          | none=>exact hc
          | some b=>cases b<;>exact hc) hn (fun a' w' ha hg2=>next wr _ h2 a' w' ha hg2)
    · rename_i f args rd hrun;obtain ⟨fop,cargs,tys,caps,avs,fn,m1,m2,m3,m4,m5,hop,hctx,hev,hfn,hbody,hname,hall,rfl⟩:=kg hrun;have hf0:Facts a []:=fun n b hm=>by simp at hm
      have hw:=(f9 hs gi hctx hdone).1.2 hf0;obtain ⟨hv1,hvn⟩:=RS hs hf0 hev;have hargs:=YJ hs hf0 hall;have hnm:=X9 hs hf0 hall;obtain ⟨vs,e1,e2,e3⟩:∃ vs:List Value,a.eval fop=.func (.func f) #[] vs.toArray∧vs.length=caps.length∧∀ (i b o:Nat),caps[i]?=some (b,o)→∃ x:Value,vs[i]?=some x∧Js β s b o x:=by
        obtain ⟨hr1,hr2⟩:=hv1;have hr2:(a.eval fop).oneCell'=true:=hr2;rw [BE hr2] at hr1;exact hr1.1
      have hnb:fn.body.isNone=false:=by cases hb:fn.body<;>simp_all
      have hex:(execOp a.eval o).run P w=.ok (.enter f (cargs.map a.eval++vs.toArray)) w:=by
        simp only [beq_eq_false_iff_ne,ne_eq] at hname;simp [execOp,hop,resolve,Deferred.ofValue,e1,invoke,callFunc,hfn,hname,hnb];intro hbn;rw [hbn] at hbody;cases hbody
      have subst0:Sub s ({ s with st:=id+BS P o }:St0 E N):=Sub.of_same (fun _=>rfl) (fun _=>rfl);have hcall:=hInl f _ _ _ r h n0 β σ w (cargs.toList.map a.eval++vs) hs.n0le (subst0.mem hs.M) (hs.kept.ext (subst0.ext P (fun _=>False) β σ w)) (fun n hn=>⟨fun q e he=>(hf n (by have:id+BS P o≤n:=hn;omega)).b q e he,fun q e he=>(hf n (by have:id+BS P o≤n:=hn;omega)).h q e he⟩)
        (fun x hx n hn=>by
          rcases Nat.lt_or_ge n (id+BS P o) with h | h
          · exact h
          · have hfn:=hf n (by omega)
            rcases List.mem_append.1 hx with hx | hx
            · exact (hnm x hx n hfn hn).elim
            · obtain ⟨p,hp,rfl⟩:=List.mem_map.1 hx;refine (hvn n hfn ?_).elim;have:n=p.1:=by simpa [AV.names,one,AG,AC.names] using hn
              simp only [AV.names,AG,AC.names,List.append_nil];exact List.mem_map.2 ⟨p,hp,this.symm⟩)
        (by
          exact (subst0.ext P (fun _=>False) β σ w).relArgs (RelArgs.append hargs (iT (n0:=n0) (P:=P) (σ:=σ) (w:=w) e2 e3)))
      unfold wpOp;simp only [hget,hw,if_true];refine .inl ?_;unfold Oper.wp;rw [hex];have harr:(cargs.toList.map a.eval++vs).toArray=cargs.map a.eval++vs.toArray:=by apply Array.ext';simp
      rw [harr] at hcall;refine Calls.mono hcall (fun e w' hp=>?_);cases e with
      | panicked ch=>exact hp.elim
      | outgrown=>exact hp.elim
      | returned v =>
        obtain ⟨av,s2,β',σ',hk,htm,hst,hm,hx,hcb,hch,hrel,hfr⟩:=hp;have hst':id+BS P o≤s2.st:=hst;have x0:Ext P (fun n=>id≤n) β σ s w β' σ' s2 w':=((subst0.ext P (fun _=>False) β σ w).trans hx).weaken (fun n h=>h.elim (fun h=>h.elim) (fun h=>by have:id+BS P o≤n:=h;omega));have hnew:∀ n,id≤n→Fresh a s n:=hf;have gT2:∀ n,s2.getT n=s.getT n:=fun n=>by unfold State.getT;rw [show s2.tm=s.tm from htm]
        rw [← hlen];have tail : ∀ (s3 : St0 E N) (a3 : Act), GK (O := std E N) P cfg inl ops.toList false rest s2.st s3 (ms ++ [(0, 0)]) k = some r → Post P n0 nt id (fun n => o.dst = some n) β σ s a w β' σ' s3 a3 w' → GI s3 (o.dst.toList ++ Aa pre) → (∀ n, s2.st ≤ n → Fresh a3 s3 n) →
            wpOps P ops Q (List.range' (pre++[o]).length rest.length) a3 w':=fun s3 a3 hk3 hp3 hg3 hf3=>by
          refine Tt inl hInl hΓ (by rw [hdl];exact hnd) hg hdn rest (pre++[o]) s2.st s3 (ms++[(0,0)]) k β' σ' a3 w' hpre2 hk3 hp3.sim (hgi2 hg3) hf3 (fun s' ms' id' β'' σ'' a'' w'' hkk hpp hle hf' hg'=>?_);have hpt:=hp3.trans hpp (by omega);refine hQ s' ms' id' β'' σ'' a'' w'' hkk ⟨hpt.sim,hpt.ext,hpt.cleanB,hpt.cleanH,hpt.defers,fun n hn=>hpt.tmps n (fun h=>hn ?_)⟩ (by omega) hf' hg';simp only [Aa]
          rcases h with h | h
          · rw [h];simp
          · cases o.dst with
            | none=>exact h
            | some d=>exact List.mem_cons_of_mem _ h
        cases hd:o.dst with
        | none =>
          rw [hd] at hk tail;refine tail s2 a hk ⟨⟨Nat.le_trans hs.n0le x0.size,hs.size,fun n tv hn=>?_,hm,hs.kept.ext x0⟩,x0,hcb,hch,rfl,fun _ _=>rfl⟩ (fun n tv hn=>gi n tv (by rw [← gT2];exact hn)) (fun n hn=>⟨fun q tv hq hg=>?_,(hfr n hn).1.1,(hfr n hn).1.2⟩)
          · rw [gT2] at hn
            rcases hs.T n tv hn with ⟨h1,h2⟩ | ⟨h1,h2⟩
            · exact .inl ⟨h1,x0.relAV (fun q hq hnw=>(hnew q hnw).t n tv hn h1 hq) h2⟩
            · exact .inr ⟨h1,h2⟩
          · rw [gT2] at hq;exact (hf n (by omega)).t q tv hq hg
        | some d =>
          rw [hd] at hk tail;have hdd:=hdst d hd;have gT3:∀ n,({ s2 with tm:=F2 s2.tm d (some ⟨[],av⟩) }:St0 E N).getT n=if n=d∧d<DA then some ⟨[],av⟩ else s.getT n:=fun n=>by
            unfold State.getT;rw [← show s2.tm=s.tm from htm];exact DQ _ _ _ _
          refine tail { s2 with tm:=F2 s2.tm d (some ⟨[],av⟩) } (a.put (some d) v) hk ⟨pu hs gi hdd.1 hdd.2 hnew htm x0 hm hrel,?_,hcb,hch,rfl,fun n hn=>EU (fun e=>hn (by rw [e]))⟩ (fun n tv hn g hg=>?_) (fun n hn=>⟨fun q tv hq hg=>?_,(hfr n hn).1.1,(hfr n hn).1.2⟩)
          · exact (x0.trans ((Sub.of_same (s:=s2) (s':={ s2 with tm:=F2 s2.tm d (some ⟨[],av⟩) }) (fun _=>rfl) (fun _=>rfl)).ext P (fun _=>False) β' σ' w')).weaken (fun n h=>h.elim (fun h=>h) (fun h=>h.elim))
          · rw [gT3] at hn
            split at hn
            · cases hn;simp at hg
            · exact List.mem_append_right _ (gi n tv hn g hg)
          · rw [gT3] at hq
            split at hq
            · cases hq;exact (hfr n hn).2
            · rename_i hne;exact (hf n (by omega)).t q tv hq ((Fa (d:=d) (v:=v) (fun g hg2 e=>hdd.1 (by have:=gi q tv hq g hg2;rw [e] at this;exact this))).1 hg)
end
end Go.Px
end
section
namespace Go.Px
section
variable {E:Env} {N:Nat} {P:Program} {cfg:Cfg} {n0 n0':Nz} {nt:Nat} {β β':Nat→Option Nat} {σ σ':Nat→Option (Nat×Nat)} {s s':St0 E N} {a:Act} {w w':World}
theorem WM {O : Alg} : ∀ (d : Nat) (t : TM (TV O)) (n : Nat), TM.get d (F8 t) n = match TM.get d t n with
    | some tv=>match tv.gs with
      | []=>some tv
      | _=>none
    | none=>none
  | 0,.e,n=>rfl
  | 0,.leaf tv,n=>by
    cases h:tv.gs<;>simp [F8,h,TM.get]
  | 0,.node l r,n=>rfl
  | d+1,.e,n=>rfl
  | d+1,.leaf tv,n=>by
    cases h:tv.gs<;>simp [F8,h,TM.get]
  | d+1,.node l r,n=>by
    simp only [F8,TM.get];cases h:Nat.beq (n % 2) 0 with
    | true=>exact WM d l (n / 2)
    | false=>exact WM d r (n / 2)
structure WF (s:St0 E N):Prop where
 fresh:∀ n,s.st≤n→Ju s n∧∀ k tv,s.getT k=some tv→n∉tv.v.names
 gs:∀ n tv,s.getT n=some tv→tv.gs=[]
theorem WF.gi (h:WF s):GI s []:=fun n tv hn g hg=>by rw [h.gs n tv hn] at hg;simp at hg
theorem WF.free (h:WF s) (a:Act):∀ n,s.st≤n→Fresh a s n:=fun n hn=>⟨fun k tv hk _=>(h.fresh n hn).2 k tv hk,(h.fresh n hn).1.1,(h.fresh n hn).1.2⟩
theorem i9 (s : St0 E N) (q n : Nat) : ({ s with tm := F8 s.tm, st := q } : St0 E N).getT n = match s.getT n with
    | some tv=>match tv.gs with
      | []=>some tv
      | _=>none
    | none=>none:=by
  unfold State.getT Cd;cases Nat.blt n DA with
  | true =>
    show TM.get Mu (F8 s.tm) n=_;rw [WM];cases TM.get Mu s.tm n<;>rfl
  | false=>rfl
theorem J0 {q n:Nat} {tv:TV (std E N)} (h:({ s with tm:=F8 s.tm,st:=q }:St0 E N).getT n=some tv):s.getT n=some tv∧tv.gs=[]:=by
 rw [i9] at h;cases hs:s.getT n with
 | none=>rw [hs] at h;cases h
 | some u =>
  rw [hs] at h;simp only at h
  split at h
  ·rename_i hg;cases h;exact ⟨rfl,hg⟩
  ·cases h
theorem Sim.purged (hs:Sim P n0 nt β σ s a w) (q:Nat):Sim P n0 nt β σ { s with tm:=F8 s.tm,st:=q } a w:=by
 have sub:Sub s ({ s with tm:=F8 s.tm,st:=q }:St0 E N):=Sub.of_same (fun _=>rfl) (fun _=>rfl);refine ⟨hs.n0le,hs.size,fun n tv hn=>?_,sub.mem hs.M,hs.kept.ext (sub.ext P (fun _=>False) β σ w)⟩;obtain ⟨h1,h2⟩:=J0 hn
 rcases hs.T n tv h1 with ⟨h3,h4⟩ | ⟨h3,h4⟩
 ·exact .inl ⟨h3,(sub.ext P (fun _=>False) β σ w).relAV (fun _ _ h=>h) h4⟩
 ·exact .inr ⟨h3,h4⟩
theorem UA:∀ {l:List Nat},am l=true→l.Nodup
 | [],_=>List.nodup_nil
 | n::l,h=>by
  simp only [am,Bool.and_eq_true,Bool.not_eq_true'] at h;exact List.nodup_cons.2 ⟨fun hm=>(by have:=CN.2 hm;rw [this] at h;cases h.1),UA h.2⟩
theorem RV:∀ {l:List Oper},Jz nt l=true→∀ d∈Aa l,d<nt
 | [],_,d,hd=>by simp [Aa] at hd
 | o::l,h,d,hd=>by
  simp only [Jz,Bool.and_eq_true] at h;simp only [Aa] at hd;cases ho:o.dst with
  | none=>rw [ho] at hd;exact RV h.2 d hd
  | some x =>
   rw [ho] at hd h
   rcases List.mem_cons.1 hd with rfl | hd
   ·exact BV.1 h.1
   ·exact RV h.2 d hd
theorem kJ (inl : Inl E N) (hInl : eT P inl) (hΓ : ∀ ci ∈ cfg.gam, Bd P E N ci ∧ Bd P E N { ci with own := false }) {ops : Array Oper} {rid : Nat} (hdn : Jz nt ops.toList = true) {Q : Exit → Act → World → Prop} {r : List PV}
    {k:St0 E N→Option (List PV)} (h:I3 (O:=std E N) P cfg inl ops.toList false s k=some r) (hs:Sim P n0 nt β σ s a w) (wf:WF s)
    (hQ:∀ (s':St0 E N) (β':Nat→Option Nat) (σ':Nat→Option (Nat×Nat)) (a':Act) (w':World),k s'=some r→Post P n0 nt s.st (fun n=>n∈Aa ops.toList) β σ s a w β' σ' s' a' w'→WF s'→s.st≤s'.st→Q .normal a' w') :
    (Code.region rid ops false).wp P Q a w:=by
  unfold I3 at h
  split at h
  · cases h
  · rename_i hok;simp only [Bool.and_eq_true] at hok;have hg:=dC hok.2.1;refine wp_region ?_;have hr:List.range ops.size=List.range' ([]:List Oper).length ops.toList.length:=by simp [List.range_eq_range']
    rw [hr];refine Tt inl hInl hΓ (UA hok.1) (fun k o ho j want hgd=>by have:=hg k o ho j want hgd;omega) (RV hdn) ops.toList [] s.st s [] _ β σ a w rfl h hs wf.gi (wf.free a) (fun s' ms' id' β' σ' a' w' hk hp hle hf hgi=>?_);have wf':WF ({ s' with tm:=F8 s'.tm,st:=id' }:St0 E N):=⟨fun n hn=>⟨⟨(hf n hn).b,(hf n hn).h⟩,fun k tv hk=>by
      obtain ⟨h1,h2⟩:=J0 hk;exact (hf n hn).t k tv h1 (fun m b hm=>by rw [h2] at hm;simp at hm)⟩,fun n tv hn=>(J0 hn).2⟩
    have sub:Sub s' ({ s' with tm:=F8 s'.tm,st:=id' }:St0 E N):=Sub.of_same (fun _=>rfl) (fun _=>rfl);exact hQ _ β' σ' a' w' hk ⟨hp.sim.purged id',(hp.ext.trans (sub.ext P (fun _=>False) β' σ' w')).weaken (fun n h=>h.elim (fun h=>h) (fun h=>h.elim)),hp.cleanB,hp.cleanH,hp.defers,hp.tmps⟩ wf' hle
end
end Go.Px
end
