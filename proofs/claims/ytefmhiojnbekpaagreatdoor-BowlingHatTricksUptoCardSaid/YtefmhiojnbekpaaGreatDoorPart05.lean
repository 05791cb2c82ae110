/- Part 5. -/
import Derived.Test.YtefmhiojnbekpaaGreatDoorPart04
import Derived.Test.YtefmhiojnbekpaaGreatDoorPart03
set_option linter.unusedVariables false
set_option linter.unusedSimpArgs false
section
namespace Go.Px
section
variable {E:Env} {N:Nat} {P:Program} {n0:Nz} {nt:Nat} {β:Nat→Option Nat} {σ:Nat→Option (Nat×Nat)} {s s':St0 E N} {a:Act} {w w':World}
theorem nz (hs : Sim P n0 nt β σ s a w) {e : TypeId} {q : Nat} {v : Value} {en : HEnt (std E N)} (hc : RelC P n0 β σ s w (.mp e q) v) (hh : s.getH q = some en) :
    en.e=e∧∃ n r,v=.map (some r)∧σ q=some (r,0)∧e=DP P n∧SD w n r en.l∧(∀ x∈en.l,x.length=n+1)∧Old n0 en.nw r:=by
  obtain ⟨⟨hno,_⟩,hk⟩:=hc;obtain ⟨he,r,hsq,hv⟩:=hk en hh
  rcases hs.M.H q en hh with ⟨t,ts,ht,_⟩ | ⟨n,r',a1,a2,a3,a4,a5,a6⟩
  · exact (hno t (by rw [← he];exact ht)).elim
  · rw [hsq] at a3;cases a3;exact ⟨he,n,r,hv,hsq,he.symm.trans a1,a4,a5,a6⟩
theorem sK (hs : Sim P n0 nt β σ s a w) {q n r : Nat} {en : HEnt (std E N)} (hh : s.getH q = some en) (hfz : en.frozen = false) (hno : ∀ t, AM P t ≠ .sl en.e) (hm : en.e = DP P n) (hsq : σ q = some (r, 0)) (hat : SD w n r en.l) (hold : Old n0 en.nw r)
    {L:Rows} (hL:∀ x∈L,x.length=n+1) {wr:Wr (std E N)} (ht0:wr.ts=[]) (hb:wr.bs=[]) (hws:wr.hs=[(q,some { en with l:=L,dirty:=true })]) :
    Mem P n0 β σ (s.apply wr) (World.withMap w n r L)∧Ext P (fun _=>False) β σ s w β σ (s.apply wr) (World.withMap w n r L)∧Tidy a (fun _=>False) s (s.apply wr):=by
  refine gt hs.M hh hfz ht0 hb hws rfl hfz rfl (fun ⟨t,ht⟩=>(hno t ht).elim) rfl rfl rfl ?_ ?_ (fun x=>?_)
  · show (w.heap.setIfInBounds r _).size=_;simp
  · intro b hb2;have hne:b≠r:=fun e=>hb2 0 (by rw [e];exact hsq)
    exact (MapKept.heap_set hat).2 b hne
  · exact .inr ⟨n,r,hm,hno,hsq,AA0 hat,hL,hold⟩
theorem tS:∀ {cs:List (AC0 E N)} {vs:List Value} {ks:List Int},Uy (O:=std E N) cs=some ks→RelCs P n0 β σ s w cs vs→vs=ks.map (Value.int .i64)
 | [],[],ks,h,_=>by cases h;rfl
 | c::cs,v::vs,ks,h,hr=>by
  unfold Uy at h
  split at h
  ·rename_i h0;cases h0
  ·rename_i i r h0;cases h0
   split at h
   ·rename_i l hl;cases h;have hv:v=.int .i64 i:=hr.1;rw [tS hl hr.2,hv];rfl
   ·cases h
  ·cases h
 | [],_::_,_,_,h=>h.elim
 | _::_,[],_,_,h=>h.elim
theorem Q7 {n k:Nat} (h:DP P n=DP P k):n=k:=by
 exact Nat.add_left_cancel h
theorem nX (l:Rows) (ks:List Int) (z:Int):TJ (std E N) l ks z=Dp ks.length ks z l:=rfl
theorem mz (l:Rows) (ks:List Int):YJ (std E N) l ks=B8 ks.length ks l:=rfl
theorem qu {kv:Val (std E N)} {v:Value} {ks:List Int} (h:RelVal P n0 β σ s w kv v) (hk:Uy (O:=std E N) kv.cs=some ks) (ha:kv.agg=true):v=Ds ks:=by
 obtain ⟨h1,h2⟩:=h;rw [ha] at h2;obtain ⟨cs,rfl⟩:=h2;have:=tS hk h1;unfold Ds;congr 1;apply Array.ext';simpa [Value.cells] using this
theorem AFs (hs : Sim P n0 nt β σ s a w) {ctx : List (Nat × Bool)} {id : Nat} {o : Oper} {T e : TypeId} {m k v : Operand} (hop : o.op = .mapUpdate T m k v) (hd : o.dst = none)
    {q:Nat} {en:HEnt (std E N)} {kv:Val (std E N)} {ks:List Int} {z:Int} (hc:RelC P n0 β σ s w (.mp e q) (a.eval m)) (hkv:RelVal P n0 β σ s w kv (a.eval k)) (hkc:Uy (O:=std E N) kv.cs=some ks) (hag:kv.agg=true)
    (hx:a.eval v=.int .i64 z) (hh:s.getH q=some en) (hfz:en.frozen=false) (he:e=DP P ks.length) (hmb:QZ P T ks.length=true) :
    ∃ w',(execOp a.eval o).run P w=.ok .skip w'∧Mem P n0 β σ (s.apply { hs:=[(q,some { en with l:=TJ (std E N) en.l ks z,dirty:=true })] }) w' ∧
      Ext P (fun _=>False) β σ s w β σ (s.apply { hs:=[(q,some { en with l:=TJ (std E N) en.l ks z,dirty:=true })] }) w'∧Tidy a (fun _=>False) s (s.apply { hs:=[(q,some { en with l:=TJ (std E N) en.l ks z,dirty:=true })] }):=by
  obtain ⟨he1,n,r,hv,hsq,hm,hat,hr,hold⟩:=nz hs hc hh;have hn:=Q7 (hm.symm.trans he);subst hn;have hk:=qu hkv hkc hag;have hno:∀ t,AM P t≠.sl en.e:=by rw [he1];exact hc.1.1
  rw [nX];obtain ⟨q1,q2,q3⟩:=sK (a:=a) (wr:={ hs:=[(q,some { en with l:=Dp ks.length ks z en.l,dirty:=true })] }) hs hh hfz hno (he1.trans hm) hsq hat hold (Xs rfl hr) rfl rfl rfl;have run:=qA (P:=P) hmb rfl hr z hat;refine ⟨_,?_,q1,q2,q3⟩;simp [execOp,hop,hv,hk,hx,run,Result.andThen]
theorem AE7 (hs : Sim P n0 nt β σ s a w) {T e : TypeId} {m k : Operand} {q : Nat} {en : HEnt (std E N)} {kv : Val (std E N)} {ks : List Int} (hc : RelC P n0 β σ s w (.mp e q) (a.eval m)) (hkv : RelVal P n0 β σ s w kv (a.eval k)) (hkc : Uy (O := std E N) kv.cs = some ks) (hag : kv.agg = true)
    (hh:s.getH q=some en) (he:e=DP P ks.length) (hmb:QZ P T ks.length=true) :
    (Instr.lookup T (a.eval m) (a.eval k) false).run P w=.ok (.int .i64 (YJ (std E N) en.l ks)) w:=by
  obtain ⟨he1,n,r,hv,hsq,hm,hat,hr,hold⟩:=nz hs hc hh;have hn:=Q7 (hm.symm.trans he);subst hn;rw [qu hkv hkc hag,hv,qE hmb rfl hr hat];rfl
theorem AFu (hs : Sim P n0 nt β σ s a w) {o : Oper} {T e : TypeId} {m k : Operand} (hop : o.op = .mapEntry T m k)
    {q:Nat} {en:HEnt (std E N)} {kv:Val (std E N)} {ks:List Int} (hc:RelC P n0 β σ s w (.mp e q) (a.eval m)) (hkv:RelVal P n0 β σ s w kv (a.eval k)) (hkc:Uy (O:=std E N) kv.cs=some ks) (hag:kv.agg=true)
    (hh:s.getH q=some en) (hfz:en.frozen=false) (he:e=DP P ks.length) (hmb:QZ P T ks.length=true) :
    let g:=YJ (std E N) en.l ks
    let wr:Wr (std E N):={ hs:=[(q,some { en with l:=TJ (std E N) en.l ks g,dirty:=true })] }
    ∃ w',(execOp a.eval o).run P w=.ok (.value (.tuple #[.int .i64 g,.int .i64 ((std E N).au ks.length en.l ks)])) w'∧Mem P n0 β σ (s.apply wr) w' ∧
      Ext P (fun _=>False) β σ s w β σ (s.apply wr) w'∧Tidy a (fun _=>False) s (s.apply wr):=by
  obtain ⟨he1,n,r,hv,hsq,hm,hat,hr,hold⟩:=nz hs hc hh;have hn:=Q7 (hm.symm.trans he);subst hn;have hk:=qu hkv hkc hag;have hno:∀ t,AM P t≠.sl en.e:=by rw [he1];exact hc.1.1
  intro g wr;have eg:g=B8 ks.length ks en.l:=rfl;have run:=rP (P:=P) hmb rfl hr hat;have ew:wr={ hs:=[(q,some { en with l:=Dp ks.length ks (B8 ks.length ks en.l) en.l,dirty:=true })] }:=by
    show ({ hs:=[(q,some { en with l:=TJ (std E N) en.l ks g,dirty:=true })] }:Wr (std E N))=_;rw [nX,eg]
  rw [ew,eg];obtain ⟨q1,q2,q3⟩:=sK (a:=a) (wr:={ hs:=[(q,some { en with l:=Dp ks.length ks (B8 ks.length ks en.l) en.l,dirty:=true })] }) hs hh hfz hno (he1.trans hm) hsq hat hold (Xs rfl hr) rfl rfl rfl;refine ⟨_,?_,q1,q2,q3⟩;simp [execOp,hop,hv,hk,run,Result.andThen]
theorem AFz (hs : Sim P n0 nt β σ s a w) {o : Oper} {T e : TypeId} {m st v : Operand} (hop : o.op = .entryStore T m st v)
    {q n:Nat} {en:HEnt (std E N)} {i z:Int} (hc:RelC P n0 β σ s w (.mp e q) (a.eval m)) (hi:a.eval st=.int .i64 i) (hx:a.eval v=.int .i64 z)
    (hh:s.getH q=some en) (hfz:en.frozen=false) (he:e=DP P n) (hmb:QZ P T n=true) (hin:iIn i (en.l.length:Int)=true) :
    let wr:Wr (std E N):={ hs:=[(q,some { en with l:=(std E N).y en.l i n [.int z],dirty:=true })] }
    ∃ w',(execOp a.eval o).run P w=.ok .skip w'∧Mem P n0 β σ (s.apply wr) w' ∧
      Ext P (fun _=>False) β σ s w β σ (s.apply wr) w'∧Tidy a (fun _=>False) s (s.apply wr):=by
  obtain ⟨he1,n',r,hv,hsq,hm,hat,hr,hold⟩:=nz hs hc hh;have hn:=Q7 (hm.symm.trans he);subst hn;have hno:∀ t,AM P t≠.sl en.e:=by rw [he1];exact hc.1.1
  simp only [iIn,decide_eq_true_eq] at hin;obtain ⟨j,rfl⟩:∃ j:Nat,i=j:=⟨i.toNat,by omega⟩;have hj:j<en.l.length:=by omega
  have el:(std E N).y en.l (j:Int) n' [.int z]=en.l.set j (G6 n' z (AE en.l j)):=by
    show en.l.set (j:Int).toNat (BB (AE en.l (j:Int).toNat) n' [PV.int z])=_;rw [Int.toNat_natCast];rfl
  intro wr;have ew:wr={ hs:=[(q,some { en with l:=en.l.set j (G6 n' z (AE en.l j)),dirty:=true })] }:=by
    show ({ hs:=[(q,some { en with l:=(std E N).y en.l (j:Int) n' [.int z],dirty:=true })] }:Wr (std E N))=_;rw [el]
  have hL:∀ x∈en.l.set j (G6 n' z (AE en.l j)),x.length=n'+1:=fun x hx=>by
    rcases List.mem_or_eq_of_mem_set hx with hx | rfl
    · exact hr x hx
    · rw [xK];refine hr _ ?_;unfold AE;rw [zzl,zzo hj];exact List.getElem_mem hj
  have run:=sE (P:=P) (T:=T) hr hj z hat;rw [ew];obtain ⟨q1,q2,q3⟩:=sK (a:=a) (wr:={ hs:=[(q,some { en with l:=en.l.set j (G6 n' z (AE en.l j)),dirty:=true })] }) hs hh hfz hno (he1.trans hm) hsq hat hold hL rfl rfl rfl;refine ⟨_,?_,q1,q2,q3⟩;simp [execOp,hop,hv,hi,hx,run,Result.andThen]
theorem AEt (m : Mem P n0 β σ s w) {id : Nat} (hf : Fresh a s id) {fr : List (Nat × Option (HEnt (std E N)))} (hfr : PreOK s fr) {h : HEnt (std E N)} {wr : Wr (std E N)}
    (ht0:wr.ts=[]) (hb:wr.bs=[]) (hh:wr.hs=fr++[(id,some h)]) (hd:h.dirty=true) (hz:h.frozen=false) {w1:World} (g:Grow w w1) {cap:Nat} {ob:Obj}
    (hrel:Ext P (·=id) β σ s w β (upd σ id (some (w1.heap.size,cap))) (s.apply wr) (w1.alloc ob)→RelH P n0 β (upd σ id (some (w1.heap.size,cap))) (s.apply wr) (w1.alloc ob) id h) :
    Mem P n0 β (upd σ id (some (w1.heap.size,cap))) (s.apply wr) (w1.alloc ob) ∧
      Ext P (·=id) β σ s w β (upd σ id (some (w1.heap.size,cap))) (s.apply wr) (w1.alloc ob)∧Tidy a (·=id) s (s.apply wr) ∧
      (s.apply wr).getH id=some h:=by
  have gB:=fun n=>State.getB_apply0 s wr hb n
  have gs:∀ n,(s.apply wr).getH n=if n=id then some h else (s.apply { hs:=fr }).getH n:=fun n=>by
    unfold State.apply State.getH;simp only [hh,Eh,BE];exact BH _ _ _ _
  have old:∀ n e,s.getH n=some e→n≠id:=fun n e he h=>(hf.h n e he h.symm)
  have fget:∀ n h',n≠id→(s.apply wr).getH n=some h'→∃ h0,s.getH n=some h0∧(h'=h0∨h'={ h0 with frozen:=true,dirty:=true }):=fun n h' hn he=>by
    rw [gs,if_neg hn] at he;exact hfr.get rfl n h' he
  have gg:=g.trans (Grow.alloc w1 ob);have x:Ext P (·=id) β σ s w β (upd σ id (some (w1.heap.size,cap))) (s.apply wr) (w1.alloc ob):=by
    refine ⟨gg.os,gg.tape,gg.output,gg.size,fun b hb _=>gg.old b hb,fun b hb=>?_,fun b e he hn=>?_,fun n e he hn=>?_⟩
    · rcases hb with ⟨n,e,he,hb⟩ | ⟨n,e,cap',he,hfz,hb⟩
      · rw [gB] at he;exact .inl (.inl ⟨n,e,he,hb⟩)
      · by_cases hid:n=id
        · rw [hid,BG] at hb;cases hb;exact .inr g.size
        · obtain ⟨h0,hh0,h1⟩:=fget n e hid he;rw [BF _ _ hid] at hb
          rcases h1 with rfl | rfl
          · exact .inl (.inr ⟨n,e,cap',hh0,hfz,hb⟩)
          · cases hfz
    · rw [gB] at he;exact ⟨⟨e,he⟩,rfl⟩
    · obtain ⟨h0,hh0,h1⟩:=fget n e hn he;refine ⟨h0,hh0,BF _ _ hn,?_⟩
      rcases h1 with rfl | rfl<;>exact ⟨rfl,fun _=>rfl⟩
  have hget:(s.apply wr).getH id=some h:=by rw [gs,if_pos rfl]
  refine ⟨U6 (id:=id) m x (fun n e he=>?_) (fun n e blk he hb=>?_) (fun n h' hn he=>?_) (fun n h' blk cap' hn he hs=>?_) (fun h' he=>?_) (fun blk cap' hs=>?_),x,⟨fun n hfn hn=>?_,fun n e he hd'=>?_,fun n e he hd'=>?_⟩,hget⟩
  · rw [gB] at he;exact ⟨e,he,rfl,fun k hk h=>(hf.b n e he).2 (h▸hk)⟩
  · rw [gB] at he;exact gg.old blk (m.ltB he hb)
  · obtain ⟨h0,hh0,h1⟩:=fget n h' hn he;refine ⟨h0,hh0,?_⟩
    rcases h1 with rfl | rfl
    · exact ⟨rfl,rfl,rfl,fun h=>h,BF _ _ hn⟩
    · exact ⟨rfl,rfl,rfl,(fun h=>by cases h),BF _ _ hn⟩
  · obtain ⟨h0,hh0,_⟩:=fget n h' hn he;exact gg.old blk (m.ltH hh0 hs)
  · rw [hget] at he;cases he;exact hrel x
  · rw [BG] at hs;cases hs;refine ⟨fun n e he hb=>?_,fun n h' cap'' hn he hs=>?_⟩
    · rw [gB] at he;have:=m.ltB he hb;have:=g.size;omega
    · obtain ⟨h0,hh0,_⟩:=fget n h' hn he;have:=m.ltH hh0 hs;have:=g.size;omega
  · refine ⟨fun k tv hk=>?_,fun k e he=>?_,fun k e he=>?_⟩
    · rw [State.getT_apply0 s wr ht0] at hk;exact hfn.t k tv hk
    · rw [gB] at he;exact hfn.b k e he
    · by_cases hk:k=id
      · exact fun h=>hn (h.trans hk)
      · obtain ⟨h0,hh0,_⟩:=fget k e hk he;exact hfn.h k h0 hh0
  · rw [gB] at he;exact he
  · by_cases hk:n=id
    · rw [hk,hget] at he;cases he;rw [hd] at hd';cases hd'
    · obtain ⟨h0,hh0,h1⟩:=fget n e hk he
      rcases h1 with rfl | rfl
      · exact hh0
      · cases hd'
theorem AGS (hs : Sim P n0 nt β σ s a w) {id : Nat} (hid : Fresh a s id) {o : Oper} {T : TypeId} {n : Nat} (hop : o.op = .makeMap T none) (hno : ∀ t, AM P t ≠ .sl (DP P n)) :
    let wr:Wr (std E N):={ hs:=[(id,some { e:=DP P n,frozen:=false,nw:=true,l:=(std E N).u,dirty:=true })] }
    ∃ v σ' w',(execOp a.eval o).run P w=.ok (.value v) w'∧Mem P n0 β σ' (s.apply wr) w'∧Ext P (·=id) β σ s w β σ' (s.apply wr) w'∧Tidy a (·=id) s (s.apply wr)∧RelC P n0 β σ' (s.apply wr) w' (.mp (DP P n) id) v:=by
  intro wr;have frn:FrOK s ([]:List (Nat×Option (HEnt (std E N)))):=fun n v hm=>by simp at hm
  obtain ⟨q1,q2,q3,q4⟩:=AEt (P:=P) (n0:=n0) (a:=a) hs.M hid frn.pre (h:={ e:=DP P n,frozen:=false,nw:=true,l:=[],dirty:=true }) (wr:=wr) rfl rfl rfl rfl rfl (Grow.refl w) (cap:=0) (ob:=.map #[] 0)
    (fun x=>.inr ⟨n,w.heap.size,rfl,hno,BG _ _ _,NP _ _,fun y hy=>absurd hy List.not_mem_nil,Old.new hs.n0le⟩)
  refine ⟨.map (some w.heap.size),_,_,?_,q1,q2,q3,⟨hno,_,rfl⟩,fun h2 hh2=>?_⟩
  · have e:(Instr.makeMap T none).run P w=.ok (.map (some w.heap.size)) (w.alloc (.map #[] 0)):=rfl;simp only [execOp,hop,Option.map_none,Sem.run_bind,e,Result.andThen_ok,Sem.run_pure]
  · have hh3:=q4.symm.trans hh2;cases hh3;exact ⟨rfl,w.heap.size,BG _ _ _,rfl⟩
end
section
variable {E:Env} {N:Nat} {P:Program} {n0:Nz} {nt:Nat} {β:Nat→Option Nat} {σ:Nat→Option (Nat×Nat)} {s s':St0 E N} {a:Act} {w w':World}
theorem kr {T e' : TypeId} (hu : P.underlying T = some (.slice e')) {lo hi : Option Value} {lb ub : Int} {av : Option Addr} {len cap : Nat} {ts : List TypeId}
    (b1:(lo=none∧lb=0)∨∃ k,lo=some (.int k lb)) (b2:(hi=none∧ub=len)∨∃ k,hi=some (.int k ub)) (hts:AU P e'=some ts) (hc:len≤cap)
    (c1:0≤lb) (c2:lb≤ub) (c3:ub≤(len:Int)) :
    (Instr.sliceAt T (.slice av len cap) lo hi none).run P w=.ok (.slice (if cap=lb.toNat then av else av.map (·.add (lb.toNat * ts.length))) (ub.toNat - lb.toNat) (cap - lb.toNat)) w:=by
  obtain ⟨hsz,hpos⟩:=Cr hts;obtain ⟨ti,hti⟩:=El (P:=P) (t:=e') (by omega);have hsb:=Pq (P:=P) (w:=w) (isSl:=true) b1 b2 c1 c2 c3 hc;unfold Instr.sliceAt;rw [Sem.run_bind,run_underlying hu,Result.andThen_ok];simp [Instr.slice,run_underlying hu,hsb,BT hti,hsz]
def oM (P:Program) (n0:Nz) (β:Nat→Option Nat) (σ:Nat→Option (Nat×Nat)) (s:St0 E N) (a:Act) (w:World) (ctx:List (Nat×Bool)) (o:Oper) (id:Nat) (as:List Bool) (wr:Wr (std E N)):Prop :=
  (∀ b∈as,b=true)→∃ z β' σ' w',((execOp a.eval o).run P w=.ok (.value z) w'∨((execOp a.eval o).run P w=.ok .skip w'∧z=undef))∧Mem P n0 β' σ' (s.apply { hs:=wr.hs }) w'∧Ext P (·=id) β σ s w β' σ' (s.apply { hs:=wr.hs }) w'∧Tidy a (·=id) s (s.apply { hs:=wr.hs })∧wr.bs=[] ∧
    ((∃ d v,o.dst=some d∧wr.ts=[(d,some ⟨ctx,v⟩)]∧RelAV P n0 β' σ' (s.apply { hs:=wr.hs }) w' v z∧∀ n,Fresh a s n→n≠id→n∉v.names)∨(o.dst=none∧wr.ts=[]))
theorem ACz (hs : Sim P n0 nt β σ s a w) {ctx : List (Nat × Bool)} (hf : Facts a ctx) {id : Nat} (hid : Fresh a s id) {o : Oper} {T : TypeId} {x hi : Operand} {lo : Option Operand} (hop : o.op = .slice T x lo (some hi) none) (hlo : VD lo = true)
    {c:AC0 E N} (hc:RelC P n0 β σ s w c (a.eval x)) {r:StepRes (std E N)} {m m':Nat} (h:RM.run s (iB P ctx id o.dst T hi c) m=.ok (some r,m')):∃ as wr,r=.plain as wr∧oM P n0 β σ s a w ctx o id as wr:=by
  unfold iB at h
  split at h
  case h_2=>cases zzc h
  rename_i e q e' d heT hd;obtain ⟨m1,h0⟩:=zzf h;cases hh:s.getH q with
  | none=>rw [hh] at h0;exact (zzb h0).elim
  | some en =>
    rw [hh] at h0;simp only at h0
    split at h0
    case h_2=>cases zzc h0
    rename_i hg;simp only [zzk,Bool.not_eq_true'] at hg;obtain ⟨hfz,hg1,hg2⟩:=hg;have he1:=AD.1 hg1;have he2:=AD.1 hg2;subst he2;obtain ⟨b,m2,h1,h2⟩:=zza h0;obtain ⟨b,rfl⟩:∃ j:Int,j=b:=⟨b,rfl⟩;have hr:=zzc h2;refine ⟨_,_,(Option.some.inj hr).symm,fun has=>?_⟩;have hb:decide (0≤(0:Int)∧(0:Int)≤b∧b≤((List.length en.l:Nat):Int))=true:=has _ zzm;have hb:=of_decide_eq_true hb;obtain ⟨k,hk⟩:=Zp hs hf h1;have hu:=Rb heT
    rcases hs.M.H q en hh with ⟨t,ts,ht,hts,hrl,hm⟩ | hM
    case inr=>exact (hM.noSl (t:=T) (by rw [← he1];exact B3.2 hu)).elim
    rw [← he1] at hts ht;have hlo':(lo.map a.eval=none∧(0:Int)=0)∨∃ k,lo.map a.eval=some (.int k 0):=by
      rcases Rw (ctx:=ctx) hlo with rfl | ⟨k,rfl⟩
      · exact .inl ⟨rfl,rfl⟩
      · exact .inr ⟨k,by simp [Act.eval]⟩
    have run:∀ {av:Option Addr} {len cap:Nat},a.eval x=.slice av len cap→en.l.length=len→len≤cap→(execOp a.eval o).run P w=.ok (.value (.slice (if cap=(0:Int).toNat then av else av.map (·.add ((0:Int).toNat * ts.length))) (b.toNat - (0:Int).toNat) (cap - (0:Int).toNat))) w:=by
      intro av len cap hv hl hcp;refine CX (x:=Instr.sliceAt T (a.eval x) (lo.map a.eval) (some (a.eval hi)) none) (by simp [execOp,hop]) ?_;rw [hv,hk];exact kr hu hlo' (.inr ⟨k,rfl⟩) hts hcp (Int.le_refl _) hb.2.1 (by rw [← hl];exact hb.2.2)
    have hbl:(en.l.take b.toNat).length=b.toNat:=by rw [List.length_take];have:=hb.2.2;omega
    obtain ⟨_,hkk⟩:=hc;obtain ⟨_,ho⟩:=hkk en hh;have hpv:∀ i j,i<b.toNat→AG (en.l.take b.toNat) i j=AG en.l i j:=fun i j hi=>by simp [AG,AE,List.getD,List.getElem?_take,hi]
    let hnew:HEnt (std E N):={ en with l:=en.l.take b.toNat,dirty:=true }
    rcases ho with ⟨blk,cap,hsi,hva⟩ | ⟨hsi,hz,av0,hva⟩
    · rcases hm with ⟨hn,_⟩ | ⟨blk',cap',cells,el,hs',hheap,hel,hsz,hcap,hnw,u,hu1,hrep⟩
      · rw [hn] at hsi;cases hsi
      · rw [hs'] at hsi;cases hsi;subst hel;have hlen:b.toNat≤en.l.length:=by have:=hb.2.2;omega
        obtain ⟨q1,q2,q3,q4⟩:=mb hs.M hid hh hfz hs' (h:=hnew) (wr:={ hs:=[(q,none),(id,some hnew)] }) (w':=w) rfl rfl rfl rfl hfz rfl rfl rfl rfl (fun _ _=>rfl) hheap (by rw [he1] at ht;exact ht) (by rw [he1] at hts;exact hts)
          (fun r hr=>hrl r (List.mem_of_mem_take hr)) hsz (by show (en.l.take b.toNat).length≤cap;omega) hnw u
          (fun i j hi hj=>hu1 i j (by have:i<(en.l.take b.toNat).length:=hi;omega) hj)
          (fun i j t' hi hj=>by
            have hi':i<b.toNat:=by have:i<(en.l.take b.toNat).length:=hi;omega
            show Rep P w _ t' (u i j) (AG (en.l.take b.toNat) i j);rw [hpv i j hi'];exact hrep i j t' (by omega) hj)
        refine ⟨_,β,_,w,.inl (run hva rfl hcap),q1,q2,q3,rfl,.inl ⟨d,one (.own e id),hd,rfl,Aw ?_,fun n _ hn=>by simpa [AV.names,one,AJ,AC.names] using hn⟩⟩;have hsl:(Value.slice (if cap=(0:Int).toNat then (some ⟨blk,0,none⟩:Option Addr) else (some (⟨blk,0,none⟩:Addr)).map (·.add ((0:Int).toNat * ts.length))) (b.toNat - (0:Int).toNat) (cap - (0:Int).toNat))=.slice (some ⟨blk,0,none⟩) b.toNat cap:=by
          split<;>simp [LJ]
        rw [hsl];have:=Lu (P:=P) (n0:=n0) (β:=β) (w':=w) (T0:=T) (h:=hnew) (by show _=LK.sl en.e;rw [← he1];exact B3.2 hu) q4 (BG σ id (some (blk,cap))) (n:=b.toNat) hbl.symm;rw [show hnew.e=e from he1.symm] at this;exact this
    · have hl0:en.l=[]:=List.length_eq_zero_iff.1 hz;have hb0:b=0:=by have h2:=hb.2.2;rw [hl0] at h2;have:=hb.2.1;simp at h2;omega
      subst hb0;have hpre:PreOK s [(q,(none:Option (HEnt (std E N))))]:=fun n v hm=>by
        simp only [List.mem_singleton,Prod.mk.injEq] at hm;exact .inl hm.2
      obtain ⟨q1,q2,q3,q4⟩:=tg hs.M hid hpre (h:=hnew) (wr:={ hs:=[(q,none)]++[(id,some hnew)] }) rfl rfl rfl rfl (by simp [hnew,hl0]) (by rw [he1] at ht;exact ht) (by rw [he1] at hts;exact hts);refine ⟨_,β,_,w,.inl (run hva (by rw [hl0];rfl) (Nat.le_refl _)),q1,q2,q3,rfl,.inl ⟨d,one (.own e id),hd,rfl,Aw ?_,fun n _ hn=>by simpa [AV.names,one,AJ,AC.names] using hn⟩⟩;refine ⟨⟨T,B3.2 hu,_,_,_,rfl⟩,fun h2 hh2=>?_⟩;have hh3:some hnew=some h2:=q4.symm.trans hh2;cases hh3;exact ⟨he1.symm,.inr ⟨BG _ _ _,by simp [hnew,hl0],av0,by simp⟩⟩
theorem ADA (hs : Sim P n0 nt β σ s a w) {ctx : List (Nat × Bool)} (hf : Facts a ctx) {id : Nat} {o : Oper} {T : TypeId} {x lo : Operand} (hop : o.op = .slice T x (some lo) none none)
    {c:AC0 E N} (hc:RelC P n0 β σ s w c (a.eval x)) (hcn:∀ n,Fresh a s n→n∉c.names) {r:StepRes (std E N)} {m m':Nat} (h:RM.run s (jC P ctx o.dst T lo c) m=.ok (some r,m')):∃ as wr,r=.plain as wr∧oM P n0 β σ s a w ctx o id as wr:=by
  unfold jC at h
  split at h
  case h_2=>cases zzc h
  rename_i e q e' d heT hd;obtain ⟨m1,h0⟩:=zzf h;cases hh:s.getH q with
  | none=>rw [hh] at h0;exact (zzb h0).elim
  | some en =>
    rw [hh] at h0;simp only at h0
    split at h0
    case h_2=>cases zzc h0
    rename_i hg;simp only [zzk,Bool.not_eq_true'] at hg;obtain ⟨hfz,hg1,hg2⟩:=hg;have he1:=AD.1 hg1;have he2:=AD.1 hg2;subst he2;obtain ⟨b,m2,h1,h2⟩:=zza h0;obtain ⟨b,rfl⟩:∃ j:Int,j=b:=⟨b,rfl⟩;have hr:=zzc h2;refine ⟨_,_,(Option.some.inj hr).symm,fun has=>?_⟩;have hb:decide (0≤b∧b≤((List.length en.l:Nat):Int)∧((List.length en.l:Nat):Int)≤((List.length en.l:Nat):Int))=true:=has _ zzm;have hb:=of_decide_eq_true hb;obtain ⟨k,hk⟩:=Zp hs hf h1;have hu:=Rb heT
    rcases hs.M.H q en hh with ⟨t,ts,ht,hts,hrl,hm⟩ | hM
    case inr=>exact (hM.noSl (t:=T) (by rw [← he1];exact B3.2 hu)).elim
    rw [← he1] at hts ht;have frn:FrOK s ([]:List (Nat×Option (HEnt (std E N)))):=fun n v hm=>by simp at hm
    have sub:=frn.sub (wr:={ hs:=[] }) rfl rfl;have run:∀ {av:Option Addr} {cap:Nat},a.eval x=.slice av en.l.length cap→en.l.length≤cap→(execOp a.eval o).run P w=.ok (.value (.slice (if cap=b.toNat then av else av.map (·.add (b.toNat * ts.length))) (en.l.length - b.toNat) (cap - b.toNat))) w:=by
      intro av cap hv hcp;refine CX (x:=Instr.sliceAt T (a.eval x) (some (a.eval lo)) none none) (by simp [execOp,hop]) ?_;rw [hv,hk];have:=kr (w:=w) hu (.inr ⟨k,rfl⟩) (.inl ⟨rfl,rfl⟩) hts hcp hb.1 hb.2.1 (Int.le_refl _) (av:=av);simpa using this
    obtain ⟨_,hkk⟩:=hc;obtain ⟨_,ho⟩:=hkk en hh;have fin : ∀ {z : Value}, (execOp a.eval o).run P w = .ok (.value z) w → RelC P n0 β σ s w (.tail e q b : AC0 E N) z → ∃ z β' σ' w', ((execOp a.eval o).run P w = .ok (.value z) w' ∨ ((execOp a.eval o).run P w = .ok .skip w' ∧ z = undef)) ∧ Mem P n0 β' σ' (s.apply { hs := [] }) w' ∧ Ext P (· = id) β σ s w β' σ' (s.apply { hs := [] }) w' ∧ Tidy a (· = id) s (s.apply { hs := [] }) ∧ ([] : List (Nat × Option (BEnt (std E N)))) = [] ∧
        ((∃ d' c,o.dst=some d'∧[(d,some (⟨ctx,one (.tail e q b:AC0 E N)⟩:TV (std E N)))]=[(d',some ⟨ctx,c⟩)]∧RelAV P n0 β' σ' (s.apply { hs:=[] }) w' c z∧∀ n,Fresh a s n→n≠id→n∉c.names)∨(o.dst=none∧[(d,some (⟨ctx,one (.tail e q b:AC0 E N)⟩:TV (std E N)))]=[])):=fun {z} h1 h2 =>
      ⟨z,β,σ,w,.inl h1,sub.mem hs.M,sub.ext P _ β σ w,Tidy.of_sub frn.pre rfl rfl rfl _,rfl,.inl ⟨d,one _,hd,rfl,Aw ((sub.ext P (fun _=>False) β σ w).relC (fun _ _ h=>h) h2),fun n hn _ hm=>hcn n hn (by simpa [AV.names,one,AJ,AC.names] using hm)⟩⟩
    rcases ho with ⟨blk,cap,hsi,hva⟩ | ⟨hsi,hz,av0,hva⟩
    · rcases hm with ⟨hn,_⟩ | ⟨blk',cap',cells,el,hs',hheap,hel,hsz,hcap,hnw,u,hu1,hrep⟩
      · rw [hn] at hsi;cases hsi
      · rw [hs'] at hsi;cases hsi;refine fin (run hva hcap) ⟨hb.1,⟨T,B3.2 hu,_,_,_,rfl⟩,fun h2 hh2=>?_⟩;rw [hh] at hh2;cases hh2;refine ⟨he1.symm,hb.2.1,_,_,rfl,?_⟩;have:=hb.2.1
        by_cases hq:en.l.length=b.toNat
        · exact .inl hq
        · refine .inr ⟨blk,cap,ts,hts,hs',?_⟩;rw [if_neg (by omega)];simp [LJ]
    · have hl0:en.l=[]:=List.length_eq_zero_iff.1 hz;refine fin (run (av:=av0) (cap:=0) (by rw [hva,hz]) (by omega)) ⟨hb.1,⟨T,B3.2 hu,_,_,_,rfl⟩,fun h2 hh2=>?_⟩;rw [hh] at hh2;cases hh2;have:=hb.2.1;exact ⟨he1.symm,hb.2.1,_,_,rfl,.inl (by omega)⟩
theorem dY:∀ {ts:List TypeId} {cs:List (AC0 E N)},Ac P ts cs=true→cs.length=ts.length
 | [],[],_=>rfl
 | [],_::_,h=>by simp [Ac] at h
 | _::_,[],h=>by simp [Ac] at h
 | t::ts,c::cs,h=>by
  simp only [Ac] at h
  split at h
  ·simp [dY h]
  ·cases h
theorem AEL (hs : Sim P n0 nt β σ s a w) {ctx : List (Nat × Bool)} {id : Nat} {o : Oper} {T : TypeId} {x : Operand} (hop : o.op = .call ⟨.builtin .clear, #[x], #[T]⟩)
    {c:AC0 E N} (hc:RelC P n0 β σ s w c (a.eval x)) {r:StepRes (std E N)} {m m':Nat} (h:RM.run s (vU P o.dst T c) m=.ok (some r,m')):∃ as wr,r=.plain as wr∧oM P n0 β σ s a w ctx o id as wr:=by
  unfold vU at h
  split at h
  case h_2=>exact (zzb h).elim
  rename_i e q i e' heT hd;obtain ⟨m1,h0⟩:=zzf h;cases hh:s.getH q with
  | none=>rw [hh] at h0;exact (zzb h0).elim
  | some en =>
    rw [hh] at h0;simp only at h0
    split at h0
    case h_2=>exact (zzb h0).elim
    rename_i z ts hz hts;obtain ⟨_,m2,h1,h2⟩:=zza h0;obtain ⟨⟨ls,fr,nw⟩,m3,h3,h4⟩:=zza h2;have hr:=zzc h4;have hg:=zzd h1;simp only [zzk,Bool.not_eq_true'] at hg;obtain ⟨⟨hfz,hg1,hg2⟩,hk,hsc⟩:=hg;have he1:=AD.1 hg1;have he2:=AD.1 hg2;subst he2;have hu:=Rb heT;obtain ⟨hsz,hpos⟩:=Cr hts;obtain ⟨ti,v,hi',hiz,hzv,hrz,hnz,hoz⟩:=Lq (n0:=n0) (β:=β) (σ:=σ) (s:=s) (w:=w) hz;obtain ⟨rfl,rfl⟩:=VH hsc h3;have frn:FrOK s ([]:List (Nat×Option (HEnt (std E N)))):=fun n v hm=>by simp at hm
    obtain ⟨_,_,hll,hlf⟩:=Vr hs.M hrz.1 h3;have hk1:Ac P ts z.cs=true:=by
      simp only [Kt] at hk
      split at hk
      · assumption
      · cases hk
    have hzl:z.cs.length=ts.length:=dY hk1;have hvl:v.cells.size=ts.length:=by have:=RelCs.length hrz.1;simp at this;omega
    have htz:ti.size=ts.length:=by rw [← hsz];simp [Program.cellsOf,hi']
    obtain ⟨i,rfl⟩:∃ j:Int,j=i:=⟨i,rfl⟩;obtain ⟨i0,_,hkk⟩:=hc;obtain ⟨_,hin,av,cap,hva,hor⟩:=hkk en hh;have hin:i≤((List.length en.l:Nat):Int):=hin;have i0:(0:Int)≤i:=i0;have hiN:i.toNat≤en.l.length:=by omega
    rcases hs.M.H q en hh with ⟨t,ts2,ht,hts2,hrl,hm⟩ | hM
    case inr=>exact (hM.noSl (t:=T) (by rw [← he1];exact B3.2 hu)).elim
    rw [← he1,hts] at hts2;cases hts2
    let zr:List PV:=ls.map Leaf.pv
    let nl:Rows:=en.l.take i.toNat++List.replicate (en.l.length - i.toNat) zr
    let hnew:HEnt (std E N):={ en with l:=nl,dirty:=true }
    have hnl:nl.length=en.l.length:=by simp [nl];omega
    have hlist:(std E N).ac ((std E N).ak en.l ((std E N).lit .i64 0) i) ((std E N).an ((std E N).l ((std E N).ak en.l i ((std E N).l en.l))) ls)=nl:=by
      show ((en.l.take i.toNat).drop (0:Int).toNat)++List.replicate ((((en.l.take ((en.l.length:Nat):Int).toNat).drop i.toNat).length:Nat):Int).toNat (ls.map Leaf.pv)=nl;simp [nl,zr]
    have hrr:r=.plain [] { hs:=[(q,some hnew)] }:=by
      have:=(Option.some.inj hr).symm;rw [this];show StepRes.plain [] { hs:=[(q,some { en with l:=(std E N).ac ((std E N).ak en.l ((std E N).lit .i64 0) i) ((std E N).an ((std E N).l ((std E N).ak en.l i ((std E N).l en.l))) ls),dirty:=true })] }=_;rw [hlist]
    refine ⟨_,_,hrr,fun has=>?_⟩;have hex:(execOp a.eval o)=(do pure (.value (← Builtin.clear_ #[T] o.type #[a.eval x]))):=by
      simp [execOp,hop,resolve,invoke,builtin]
    have hrowl:∀ r∈nl,r.length=ts.length:=fun r hr=>by
      rcases List.mem_append.1 hr with h | h
      · exact hrl r (List.mem_of_mem_take h)
      · rw [List.eq_of_mem_replicate h];simp [zr];omega
    by_cases hq:en.l.length=i.toNat
    ·
      have hne:nl=en.l:=by simp [nl,hq,List.take_of_length_le (Nat.le_of_eq hq)]
      have hrun:(Builtin.clear_ #[T] o.type #[a.eval x]).run P w=.ok (.tuple #[]) w:=by
        rw [hva,hq,Nat.sub_self];cases av<;>simp [Builtin.clear_,run_underlying hu]
      obtain ⟨q1,q2,q3⟩:=gt (a:=a) hs.M hh hfz (h:=hnew) (wr:={ hs:=[(q,some hnew)] }) (w':=w) rfl rfl rfl rfl hfz rfl (fun _=>hnl) rfl rfl rfl rfl (fun _ _=>rfl)
        (fun x=>by
          rcases hs.M.H q en hh with ⟨t,ts,a1,a2,a3,a4⟩ | hM
          case inr=>exact (hM.noSl (t:=T) (by rw [← he1];exact B3.2 hu)).elim
          refine .inl ⟨t,ts,a1,a2,by show ∀ r∈nl,_;rw [hne];exact a3,?_⟩
          rcases a4 with ⟨b1,b2⟩ | ⟨blk,cap,cells,el,b1,b2,b3,b4,b5,b6,vv,b7,b8⟩
          · exact .inl ⟨b1,by show nl=_;rw [hne];exact b2⟩
          · refine .inr ⟨blk,cap,cells,el,b1,b2,b3,b4,by show nl.length≤_;rw [hne];exact b5,b6,vv,by show ∀ i j,i<nl.length→_;rw [hne];exact b7,fun i j t' h1 h2=>?_⟩;show Rep P w _ t' (vv i j) (AG nl i j);rw [hne];exact x.rep (b8 i j t' (by have h1:i<nl.length:=h1;rwa [hne] at h1) h2))
      exact ⟨.tuple #[],β,σ,w,.inl (by rw [hex];simp [hrun]),q1,q2.weaken (fun _ h=>h.elim),q3.weaken (fun _ h=>h.elim),rfl,.inr ⟨hd,rfl⟩⟩
    · rcases hor with hor | ⟨blk,cap2,ts3,hts3,hsq,hav⟩
      · exact (hq hor).elim
      · rw [hts] at hts3;cases hts3
        rcases hm with ⟨hn,_⟩ | ⟨blk',cap',cells,el,hs',hheap,hel,hsz2,hcap,hnw,u,hu1,hrep⟩
        · rw [hn] at hsq;cases hsq
        · rw [hs'] at hsq;cases hsq
          let n:=en.l.length - i.toNat
          have hnpos:0<n:=by show 0<en.l.length - i.toNat;omega
          let us:List Value:=(Builtin.zeroCells v.cells n).toList
          have husl:us.length=n * ts.length:=by simp [us,size_zeroCells,hvl]
          have hget:∀ k,k<n * ts.length→us[k]?=v.cells[k % ts.length]?:=fun k hk=>by
            have h1:k<(Builtin.zeroCells v.cells n).size:=by rw [size_zeroCells,hvl];exact hk
            simp only [us,Array.getElem?_toList];rw [Array.getElem?_eq_getElem h1];simp only [Builtin.zeroCells,Array.getElem_map,Array.getElem_range,hvl];rw [Array.getElem?_eq_getElem (by rw [hvl];exact Nat.mod_lt _ hpos)];simp [Nat.mod_lt _ hpos,hvl]
          have hone:∀ x∈us,x.oneCell'=true:=fun x hx=>by
            obtain ⟨k,hk⟩:=List.getElem?_of_mem hx;have hklt:k<n * ts.length:=by rw [← husl];exact (List.getElem?_eq_some_iff.1 hk).1
            rw [hget k hklt] at hk;exact hrz.1.one x (by rw [Array.mem_toList_iff];exact Array.mem_of_getElem? hk)
          have hle:i.toNat * ts.length+us.length≤cells.size:=by
            rw [husl,hsz2,← Nat.add_mul];exact Nat.mul_le_mul_right _ (by show i.toNat+(en.l.length - i.toNat)≤cap2;omega)
          have hst:=run_storeCells_at (P:=P) blk (i.toNat * ts.length) el us 0 cells w hheap (by simpa using hle) hone
          let w2:=w.setRow blk (laid cells (i.toNat * ts.length) us)
          have hrun:(Builtin.clear_ #[T] o.type #[a.eval x]).run P w=.ok (.tuple #[]) w2:=by
            rw [hva,hav];obtain ⟨n',hn'⟩:∃ n',en.l.length - i.toNat=n'+1:=⟨en.l.length - i.toNat - 1,by omega⟩;have hst2:(storeCells ⟨blk,i.toNat * ts.length,none⟩ (Builtin.zeroCells v.cells (n'+1)).toList).run P w=.ok () w2:=by
              have:us=(Builtin.zeroCells v.cells (n'+1)).toList:=by show (Builtin.zeroCells v.cells (en.l.length - i.toNat)).toList=_;rw [hn']
              rw [← this];simpa [w2,laid,List.append_assoc] using hst
            rw [hn'];simp [Builtin.clear_,run_underlying hu,hzv,hst2]
          have hpl:∀ i' j,i'<i.toNat→AG nl i' j=AG en.l i' j:=fun i' j h=>by
            simp only [AG,AE,List.getD,nl];rw [List.getElem?_append_left (by rw [List.length_take];omega),List.getElem?_take,if_pos h]
          have hpr:∀ i' j,i.toNat≤i'→i'<en.l.length→AG nl i' j=AA zr j:=fun i' j h1 h2=>by
            simp only [AG,AE,List.getD,nl];rw [List.getElem?_append_right (by rw [List.length_take];omega)];rw [List.length_take,List.getElem?_replicate,if_pos (by omega)];rfl
          have hs1:∀ b,(∀ cap,σ q≠some (b,cap))→w2.heap[b]?=w.heap[b]?:=fun b hb=>setRow_other w blk b _ (fun e=>hb cap2 (e▸hs'))
          obtain ⟨q1,q2,q3⟩:=gt (a:=a) hs.M hh hfz (h:=hnew) (wr:={ hs:=[(q,some hnew)] }) (w':=w2) rfl rfl rfl rfl hfz rfl (fun _=>hnl) rfl rfl rfl (by simp [w2]) hs1
            (fun xx=>by
              refine .inl ⟨t,ts,ht,by rw [← hts,he1],hrowl,.inr ⟨blk,cap2,laid cells (i.toNat * ts.length) us,el,hs',setRow_heap w blk cells _ _ _ hheap,hel,by rw [sX hle];exact hsz2,by show nl.length≤cap2;rw [hnl];exact hcap,hnw,
                fun i' j=>if i.toNat≤i' then v.cells.getD j undef else u i' j,fun i' j hi' hj=>?_,fun i' j t' hi' hj=>?_⟩⟩
              · have hi2:i'<en.l.length:=by have:i'<nl.length:=hi';omega
                rw [wI hle]
                by_cases hc:i.toNat≤i'
                · have h1:i.toNat * ts.length≤i' * ts.length:=Nat.mul_le_mul_right _ hc;have h2:i' * ts.length+j<i.toNat * ts.length+us.length:=by
                    rw [husl,← Nat.add_mul];have:(i'+1) * ts.length≤(i.toNat+n) * ts.length:=Nat.mul_le_mul_right _ (by show i'+1≤i.toNat+(en.l.length - i.toNat);omega);rw [Nat.add_mul,Nat.one_mul] at this;omega
                  rw [if_pos ⟨by omega,h2⟩];simp only [hc,if_true];have e2:i' * ts.length+j - i.toNat * ts.length=(i' - i.toNat) * ts.length+j:=by rw [Nat.sub_mul];omega
                  have h3:(i' - i.toNat) * ts.length+j<n * ts.length:=by
                    have:(i' - i.toNat+1) * ts.length≤n * ts.length:=Nat.mul_le_mul_right _ (by show i' - i.toNat+1≤en.l.length - i.toNat;omega);rw [Nat.add_mul,Nat.one_mul] at this;omega
                  rw [e2,hget _ h3,Nat.add_comm,Nat.mul_comm,Nat.add_mul_mod_self_left,Nat.mod_eq_of_lt hj];simp [hvl,hj]
                · have h1:(i'+1) * ts.length≤i.toNat * ts.length:=Nat.mul_le_mul_right _ (by omega);rw [Nat.add_mul,Nat.one_mul] at h1;rw [if_neg (by omega)];simp only [hc,if_false];exact hu1 i' j hi2 hj
              · have hi2:i'<en.l.length:=by have:i'<nl.length:=hi';omega
                have hj':j<ts.length:=(List.getElem?_eq_some_iff.1 hj).1;show Rep P w2 _ t' (if i.toNat≤i' then v.cells.getD j undef else u i' j) (AG nl i' j)
                by_cases hc:i.toNat≤i'
                · rw [if_pos hc,hpr i' j hc hi2];have:=hlf ts (s.apply { hs:=[] }) hk1 (frn.sub rfl rfl) (frn.frz rfl) true (fun h=>h) j t' (v.cells.getD j undef) hj (by simp [hvl,hj']);have hgo:Rep P w (StB n0 β σ s hnew.nw) t' (v.cells.getD j undef) (AA zr j):=by
                    refine Rep.mono (w':=w) (St':=StB n0 β σ s hnew.nw) this (fun b _ hlt=>⟨rfl,hlt⟩) (fun b hb hlt=>?_);refine ⟨fun hm=>hb.1 ?_,hb.2.mono (fun _=>rfl)⟩
                    rcases hm with ⟨n,e,he,hb⟩ | ⟨n,e,cap3,he,hf,hb⟩
                    · exact .inl ⟨n,e,by rw [State.getB_apply0 s _ rfl];exact he,hb⟩
                    · exact .inr ⟨n,e,cap3,by rw [State.getH_apply0 s _ rfl];exact he,hf,hb⟩
                  exact xx.rep hgo
                · rw [if_neg hc,hpl i' j (by omega)];exact xx.rep (hrep i' j t' hi2 hj))
          exact ⟨.tuple #[],β,σ,w2,.inl (by rw [hex];simp [hrun]),q1,q2.weaken (fun _ h=>h.elim),q3.weaken (fun _ h=>h.elim),rfl,.inr ⟨hd,rfl⟩⟩
theorem qB {cfg:Cfg} {o:Oper} {sp:Spec} (h:PB cfg o.op=some sp):Bj P o=1:=by
 unfold PB at h
 split at h
 all_goals first | (rename_i hop;unfold Bj;rw [hop];done) | cases h
theorem jh {T : TypeId} {n q : Nat} {c : AC0 E N} {en : HEnt (std E N)} {m m' : Nat} (h : RM.run s (YN P T n c) m = .ok ((q, en), m')) :
    ∃ e,c=.mp e q∧s.getH q=some en∧en.frozen=false∧e=DP P n∧QZ P T n=true:=by
  unfold YN at h
  split at h
  · rename_i e q';obtain ⟨m1,h0⟩:=zzf h;cases hh:s.getH q' with
    | none=>rw [hh] at h0;exact (zzb h0).elim
    | some en' =>
      rw [hh] at h0;simp only at h0
      split at h0
      · rename_i hg;have:=zzc h0;cases this;simp only [zzk,Bool.not_eq_true'] at hg;exact ⟨e,rfl,hh,hg.1,AD.1 hg.2.1.1,hg.2.2⟩
      · exact (zzb h0).elim
  · exact (zzb h).elim
theorem nW (hs : Sim P n0 nt β σ s a w) {ctx : List (Nat × Bool)} (hf : Facts a ctx) {T : TypeId} {k : Operand} {ks : List Int} {m m' : Nat} (h : RM.run s (Xj P ctx T k) m = .ok (ks, m')) :
    ∃ kv,RelVal P n0 β σ s w kv (a.eval k)∧Uy (O:=std E N) kv.cs=some ks∧kv.agg=true:=by
  obtain ⟨kv,m1,h1,h2⟩:=zza h;have h3:=zzh h2;unfold AB1 at h3
  split at h3
  · rename_i ha;exact ⟨kv,(Kj hs hf h1).1,h3,ha⟩
  · cases h3
theorem mi {c:AC0 E N} {z:Int} {m m':Nat} (h:RM.run s (pE c) m=.ok (z,m')):c=.int .i64 z:=by
 unfold pE at h
 split at h
 ·rw [zzc h]
 ·exact (zzb h).elim
theorem js {info:TypeId→Option TypeInfo} {fs:Array Field} {i:TypeInfo} (h:Made.reckonStruct info fs=some i):∃ o,i.desc=.struct o:=by
 unfold Made.reckonStruct at h;obtain ⟨r,_,h⟩:=Option.bind_eq_some_iff.1 h;simp only [pure] at h
 repeat' split at h
 all_goals (cases h;exact ⟨_,rfl⟩)
theorem vu {info:TypeId→Option TypeInfo} {d:TypeDesc} {i:TypeInfo} {e:TypeId} (h:Made.reckon info d=some i) (hd:i.desc=.slice e):∃ j,info e=some j:=by
 cases d with
 | slice e' =>
  obtain ⟨j,hj,h⟩:=Option.bind_eq_some_iff.1 h;obtain ⟨s,_,h⟩:=Option.bind_eq_some_iff.1 h;cases h;cases hd;exact ⟨j,hj⟩
 | struct fs=>obtain ⟨o,ho⟩:=js h;rw [ho] at hd;cases hd
 | pointer e' =>
  obtain ⟨j,hj,h⟩:=Option.bind_eq_some_iff.1 h;simp only at h
  repeat' split at h
  all_goals first | (cases h;done) | (obtain ⟨s,_,h⟩:=Option.bind_eq_some_iff.1 h;cases h;cases hd)
 | map k e' =>
  obtain ⟨j,hj,h⟩:=Option.bind_eq_some_iff.1 h;obtain ⟨j,hj,h⟩:=Option.bind_eq_some_iff.1 h;obtain ⟨j,hj,h⟩:=Option.bind_eq_some_iff.1 h;obtain ⟨j,hj,h⟩:=Option.bind_eq_some_iff.1 h;cases h;cases hd
 | chan c e' =>
  obtain ⟨j,hj,h⟩:=Option.bind_eq_some_iff.1 h;obtain ⟨j,hj,h⟩:=Option.bind_eq_some_iff.1 h;cases h;cases hd
 | func ps rs v =>
  obtain ⟨j,hj,h⟩:=Option.bind_eq_some_iff.1 h;cases h;cases hd
 | array n e' =>
  obtain ⟨j,hj,h⟩:=Option.bind_eq_some_iff.1 h;obtain ⟨s,hs,h⟩:=Option.bind_eq_some_iff.1 h;cases h;cases hd
 | _=>cases h
theorem AFZ {n:Nat} (h:noSl P (DP P n)=true) (hn:n<200) (t:TypeId):AM P t≠.sl (DP P n):=fun hc=>by
 have hu:=B3.1 hc;unfold noSl at h;rw [List.all_eq_true] at h;have none:∀ f,Made.infoAt P.toTables f (DP P n)=none:=fun f=>by
  cases f with
  | zero=>rfl
  | succ f =>
   unfold Made.infoAt;have h1:¬ DP P n<P.toTables.types.size:=by unfold DP;show ¬ P.types.size+2+n<P.types.size;omega
   rw [if_neg h1];have h2:DP P n - P.toTables.types.size=2+n:=by unfold DP;show P.types.size+2+n - P.types.size=2+n;omega
   rw [h2];have h3:Made.decode (2+n)=none:=by
    have:Made.unpack (2+n)=none:=by
     unfold Made.unpack;rw [show 2+n+1=(n+1)+1+1 by omega];simp only [Made.unpackFrom];rw [if_neg (by omega),if_neg (by omega),if_neg (by omega),show (2+n) / 257=0 by omega];simp
    unfold Made.decode;rw [this];rfl
   rw [h3];rfl
 have key:∀ (u:TypeId) (i:TypeInfo),P.info? u=some i→i.desc=.slice (DP P n)→False:=fun u i hi hd=>by
  unfold Tables.info? at hi
  split at hi
  ·have hm:i∈P.types.toList:=by
    rw [Array.mem_toList_iff];exact Array.mem_of_getElem? hi
   have:=h i hm;rw [hd] at this;simp only [Bool.not_eq_true',AD.2 rfl] at this;cases this
  ·rename_i hlt;unfold Made.depth Made.infoAt at hi;rw [if_neg hlt] at hi;obtain ⟨d,_,h2⟩:=Option.bind_eq_some_iff.1 hi;obtain ⟨j,hj⟩:=vu h2 hd;rw [none] at hj;cases hj
 unfold Program.underlying at hu
 split at hu
 ·rename_i u _ _ _ _ _ _ _ _ _ _;cases hi:P.info? u with
  | none=>rw [hi] at hu;cases hu
  | some i=>rw [hi] at hu;exact key u i hi (Option.some.inj hu)
 ·rename_i i _ hi;exact key t i hi (Option.some.inj hu)
 ·cases hu
theorem sq {cfg : Cfg} (hs : Sim P n0 nt β σ s a w) {ctx : List (Nat × Bool)} (hf : Facts a ctx) {id : Nat} (hid : Fresh a s id) {o : Oper} {sp : Spec} (hop : PB cfg o.op = some sp)
    {r:StepRes (std E N)} {m m':Nat} (h:RM.run s (Zk P ctx id o.dst sp) m=.ok (some r,m')):∃ as wr,r=.plain as wr∧oM P n0 β σ s a w ctx o id as wr:=by
  unfold PB at hop
  split at hop
  · rename_i T x lo hi ho
    split at hop
    · rename_i hg;cases hop;simp only [zzk] at hg;obtain ⟨c,m1,h1,h2⟩:=zza h;exact ACz hs hf hid ho hg.2 (CE hs hf h1).1 h2
    · cases hop
  · rename_i T x lo ho
    split at hop
    · cases hop;obtain ⟨c,m1,h1,h2⟩:=zza h;obtain ⟨e1,_,e2⟩:=CE hs hf h1;exact ADA hs hf ho e1 e2 h2
    · cases hop
  · rename_i args tys ho
    split at hop
    · rename_i x T ha ht;cases hop;obtain ⟨c,m1,h1,h2⟩:=zza h;have ha':args=#[x]:=by apply Array.ext';simpa using ha
      have ht':tys=#[T]:=by apply Array.ext';simpa using ht
      subst ha';subst ht';exact AEL hs ho (CE hs hf h1).1 h2
    · cases hop
  · rename_i T ho;cases hop
    replace h:RM.run s (yU P ctx id o.dst T (P.cellsOf (KK P T).1)) m=.ok (some r,m'):=h
    unfold yU at h
    split at h
    case h_2=>exact (zzb h).elim
    rename_i d hd hg;simp only [zzk] at hg;refine ⟨_,_,(Option.some.inj (zzc h)).symm,fun _=>?_⟩;obtain ⟨v,σ',w',r1,r2,r3,r4,r5⟩:=AGS hs hid ho (AFZ hg.2.1 (Nat.le_of_ble_eq_true hg.2.2));exact ⟨v,β,σ',w',.inl r1,r2,r3,r4,rfl,.inl ⟨d,_,hd,rfl,Aw r5,fun n _ hn=>by simpa [AV.names,one,AJ,AC.names] using hn⟩⟩
  · rename_i T mm k v ho;cases hop;obtain ⟨c,m1,h1,h2⟩:=zza h;obtain ⟨ks,m2,h3,h4⟩:=zza h2;obtain ⟨x,m3,h5,h6⟩:=zza h4;obtain ⟨z,m4,h7,h8⟩:=zza h6;unfold ABA at h8
    split at h8
    case h_2=>exact (zzb h8).elim
    rename_i hd;obtain ⟨⟨q,en⟩,m5,h9,h10⟩:=zza h8;obtain ⟨e,rfl,hh,hfz,he,hmb⟩:=jh h9;obtain ⟨kv,k1,k2,k3⟩:=nW hs hf h3;have hx:=mi h7;subst hx;refine ⟨_,_,(Option.some.inj (zzc h10)).symm,fun _=>?_⟩;obtain ⟨w',r1,r2,r3,r4⟩:=AFs hs (ctx:=ctx) (id:=id) ho hd (CE hs hf h1).1 k1 k2 k3 (CE hs hf h5).1 hh hfz he hmb;exact ⟨undef,β,σ,w',.inr ⟨r1,rfl⟩,r2,r3.weaken (fun _ h=>h.elim),r4.weaken (fun _ h=>h.elim),rfl,.inr ⟨hd,rfl⟩⟩
  · rename_i T mm k ho;cases hop;obtain ⟨c,m1,h1,h2⟩:=zza h;obtain ⟨ks,m2,h3,h4⟩:=zza h2;unfold ct at h4
    split at h4
    case h_2=>exact (zzb h4).elim
    rename_i d hd;obtain ⟨⟨q,en⟩,m5,h9,h10⟩:=zza h4;obtain ⟨e,rfl,hh,hfz,he,hmb⟩:=jh h9;obtain ⟨kv,k1,k2,k3⟩:=nW hs hf h3;refine ⟨_,_,(Option.some.inj (zzc h10)).symm,fun _=>?_⟩;have run:=AE7 hs (T:=T) (k:=k) (CE hs hf h1).1 k1 k2 k3 hh he hmb;have frn:FrOK s ([]:List (Nat×Option (HEnt (std E N)))):=fun n v hm=>by simp at hm
    have sub:=frn.sub (wr:={ hs:=[] }) rfl rfl;exact ⟨_,β,σ,w,.inl (CX (x:=Instr.lookup T (a.eval mm) (a.eval k) false) (by simp [execOp,ho]) run),sub.mem hs.M,sub.ext P _ β σ w,Tidy.of_sub frn.pre rfl rfl rfl _,rfl,.inl ⟨d,_,hd,rfl,Aw rfl,fun n _ hn=>by simp [AV.names,one,AJ,AC.names]⟩⟩
  · rename_i T mm k ho;cases hop;obtain ⟨c,m1,h1,h2⟩:=zza h;obtain ⟨ks,m2,h3,h4⟩:=zza h2;unfold qY at h4
    split at h4
    case h_2=>exact (zzb h4).elim
    rename_i d hd;obtain ⟨⟨q,en⟩,m5,h9,h10⟩:=zza h4;obtain ⟨e,rfl,hh,hfz,he,hmb⟩:=jh h9;obtain ⟨kv,k1,k2,k3⟩:=nW hs hf h3;refine ⟨_,_,(Option.some.inj (zzc h10)).symm,fun _=>?_⟩;obtain ⟨w',r1,r2,r3,r4⟩:=AFu hs ho (CE hs hf h1).1 k1 k2 k3 hh hfz he hmb;exact ⟨_,β,σ,w',.inl r1,r2,r3.weaken (fun _ h=>h.elim),r4.weaken (fun _ h=>h.elim),rfl,.inl ⟨d,_,hd,rfl,⟨_,rfl,Uk rfl,Uk rfl,trivial⟩,fun n _ hn=>by simp [AV.names,Bn,AJ,AC.names]⟩⟩
  · rename_i T mm x v ho;cases hop;obtain ⟨c,m1,h1,h2⟩:=zza h;obtain ⟨x1,m2,h3,h4⟩:=zza h2;obtain ⟨i,m3,h5,h6⟩:=zza h4;obtain ⟨y1,m4,h7,h8⟩:=zza h6;obtain ⟨z,m5,h9,h10⟩:=zza h8;unfold AAq at h10
    split at h10
    case h_2=>exact (zzb h10).elim
    rename_i hd;obtain ⟨⟨q,en⟩,m6,h11,h12⟩:=zza h10;obtain ⟨e,rfl,hh,hfz,he,hmb⟩:=jh h11;have hx:=mi h5;subst hx;have hy:=mi h9;subst hy;refine ⟨_,_,(Option.some.inj (zzc h12)).symm,fun has=>?_⟩;obtain ⟨w',r1,r2,r3,r4⟩:=AFz hs ho (CE hs hf h1).1 (CE hs hf h3).1 (CE hs hf h7).1 hh hfz he hmb (has _ zzm);exact ⟨undef,β,σ,w',.inr ⟨r1,rfl⟩,r2,r3.weaken (fun _ h=>h.elim),r4.weaken (fun _ h=>h.elim),rfl,.inr ⟨hd,rfl⟩⟩
  · cases hop
theorem V1 {cfg : Cfg} {ctx : List (Nat × Bool)} {g : Option Bool} {o : Oper} {id : Nat} {r : StepRes (std E N)} {m m' : Nat}
    (h:RM.run s (vb P cfg ctx g o id) m=.ok (r,m')) :
    (∃ sp m1,g=none∧PB cfg o.op=some sp∧RM.run s (Zk P ctx id o.dst sp) m=.ok (some r,m1))∨∃ m1,RM.run s (aU P cfg ctx g o id) m1=.ok (r,m'):=by
  unfold vb at h
  split at h
  · rename_i sp hsp;obtain ⟨x,m1,h1,h2⟩:=zza h;cases x with
    | some r' =>
      have:=zzc h2;subst this;exact .inl ⟨sp,m1,rfl,hsp,h1⟩
    | none=>exact .inr ⟨m1,h2⟩
  · exact .inr ⟨m,h⟩
theorem yF {ctx:List (Nat×Bool)} {id:Nat} {d:Option Nat} {sp:Spec} {r:StepRes (std E N)} {m m':Nat} (h:RM.run s (Zk P ctx id d sp) m=.ok (some r,m')):∃ as wr,r=.plain as wr:=by
 have take:∀ {T:TypeId} {hi:Operand} {c:AC0 E N} {m:Nat},RM.run s (iB P ctx id d T hi c) m=.ok (some r,m')→∃ as wr,r=.plain as wr:=fun {T hi c m} h=>by
  unfold iB at h
  split at h
  ·obtain ⟨m1,h0⟩:=zzf h
   split at h0
   ·split at h0
    ·obtain ⟨b,m2,h1,h2⟩:=zza h0;exact ⟨_,_,(Option.some.inj (zzc h2)).symm⟩
    ·cases zzc h0
   ·exact (zzb h0).elim
  ·cases zzc h
 have tail:∀ {T:TypeId} {lo:Operand} {c:AC0 E N} {m:Nat},RM.run s (jC P ctx d T lo c) m=.ok (some r,m')→∃ as wr,r=.plain as wr:=fun {T lo c m} h=>by
  unfold jC at h
  split at h
  ·obtain ⟨m1,h0⟩:=zzf h
   split at h0
   ·split at h0
    ·obtain ⟨b,m2,h1,h2⟩:=zza h0;exact ⟨_,_,(Option.some.inj (zzc h2)).symm⟩
    ·cases zzc h0
   ·exact (zzb h0).elim
  ·cases zzc h
 cases sp with
 | take T x hi=>obtain ⟨c,m1,h1,h2⟩:=zza h;exact take h2
 | tail T x lo=>obtain ⟨c,m1,h1,h2⟩:=zza h;exact tail h2
 | clr T x =>
  obtain ⟨c,m1,h1,h2⟩:=zza h;unfold vU at h2
  split at h2
  ·obtain ⟨m1,h0⟩:=zzf h2
   split at h0
   ·split at h0
    ·obtain ⟨_,m2,h3,h4⟩:=zza h0;obtain ⟨_,m3,h5,h6⟩:=zza h4;exact ⟨_,_,(Option.some.inj (zzc h6)).symm⟩
    ·exact (zzb h0).elim
   ·exact (zzb h0).elim
  ·exact (zzb h2).elim
 | mkMap T =>
  replace h:RM.run s (yU P ctx id d T (P.cellsOf (KK P T).1)) m=.ok (some r,m'):=h
  unfold yU at h
  split at h
  ·exact ⟨_,_,(Option.some.inj (zzc h)).symm⟩
  ·exact (zzb h).elim
 | mapUpd T mm k v =>
  obtain ⟨_,_,_,h⟩:=zza h;obtain ⟨_,_,_,h⟩:=zza h;obtain ⟨_,_,_,h⟩:=zza h;obtain ⟨_,_,_,h⟩:=zza h;unfold ABA at h
  split at h
  ·obtain ⟨_,_,_,h⟩:=zza h;exact ⟨_,_,(Option.some.inj (zzc h)).symm⟩
  ·exact (zzb h).elim
 | mapGet T mm k =>
  obtain ⟨_,_,_,h⟩:=zza h;obtain ⟨_,_,_,h⟩:=zza h;unfold ct at h
  split at h
  ·obtain ⟨_,_,_,h⟩:=zza h;exact ⟨_,_,(Option.some.inj (zzc h)).symm⟩
  ·exact (zzb h).elim
 | mapEnt T mm k =>
  obtain ⟨_,_,_,h⟩:=zza h;obtain ⟨_,_,_,h⟩:=zza h;unfold qY at h
  split at h
  ·obtain ⟨_,_,_,h⟩:=zza h;exact ⟨_,_,(Option.some.inj (zzc h)).symm⟩
  ·exact (zzb h).elim
 | mapSto T mm x v =>
  obtain ⟨_,_,_,h⟩:=zza h;obtain ⟨_,_,_,h⟩:=zza h;obtain ⟨_,_,_,h⟩:=zza h;obtain ⟨_,_,_,h⟩:=zza h;obtain ⟨_,_,_,h⟩:=zza h;unfold AAq at h
  split at h
  ·obtain ⟨_,_,_,h⟩:=zza h;exact ⟨_,_,(Option.some.inj (zzc h)).symm⟩
  ·exact (zzb h).elim
end
section
variable {E:Env} {N:Nat} {P:Program} {cfg:Cfg} {n0 n0':Nz} {nt:Nat} {β β':Nat→Option Nat} {σ σ':Nat→Option (Nat×Nat)} {s s':St0 E N} {a:Act} {w w':World}
theorem tF {o:Oper} (h:ABY P o.op=true):0<Bj P o:=by
 unfold ABY at h;unfold Bj;cases hop:o.op<;>rw [hop] at h<;>first | (exact Nat.one_pos) | (cases h;done) | skip
 rename_i c;simp only at h ⊢;cases hc:c.callee<;>rw [hc] at h<;>first | (exact Nat.one_pos) | cases h
theorem tU:∀ {gam:List CI} {f:Nat} {fns:List Nat} {ci:CI},Z8 gam f fns=some ci→ci∈gam∧ci.f=f∧ci.fns=fns
 | c::l,f,fns,ci,h=>by
  simp only [Z8] at h
  split at h
  ·rename_i hb;cases h;simp only [zzk] at hb;exact ⟨zzm,AD.1 hb.1,Jc.1 hb.2⟩
  ·obtain ⟨h1,h2⟩:=tU h;exact ⟨zzn _ h1,h2⟩
 | [],_,_,_,h=>by simp [Z8] at h
theorem YI {ctx : List (Nat × Bool)} {g : Option Bool} {id : Nat} {d : Option Nat} {f : FuncId} {caps : List (Nat × Nat)} {args : List (AV (std E N))} {sr : StepRes (std E N)} {m m' : Nat}
    (h:RM.run s (nN (O:=std E N) P cfg ctx g id d f caps args) m=.ok (sr,m')) :
    (g=none∧sr=.inl f (args++caps.map fun (b,o)=>one (.ptr b o))) ∨
    (caps = [] ∧ ∃ fns ci fn ls fr u dm m2 m3, JH args = some fns ∧ Z8 cfg.gam f fns = some ci ∧ P.funcs[f]? = some fn ∧ fn.body.isSome = true ∧ (fn.name == "runtime.NumGoroutine") = false ∧ H8 P fn.params.toList args = true ∧
      RM.run s (M4 (O:=std E N) ci.gives [] args) m2=.ok ((ls,fr,u),m3)∧jR ci.gives u fr=true ∧
      sr=.call g f fns ls dm (wW P ctx g id d ci fn fr u)):=by
  unfold nN at h;cases caps with
  | cons c0 cr=>cases g with
    | none=>exact .inl ⟨rfl,(zzc h).symm⟩
    | some b=>exact (zzb h).elim
  | nil=>cases g with
    | none =>
      simp only at h
      split at h
      · exact .inl ⟨rfl,(zzc h).symm⟩
      · rename_i fns hfns
        split at h
        · exact .inl ⟨rfl,(zzc h).symm⟩
        · rename_i ci hci
          split at h
          · exact (zzb h).elim
          · rename_i fn hfn;obtain ⟨_,m1,h1,h2⟩:=zza h;obtain ⟨⟨ls,fr,u⟩,m2,h3,h4⟩:=zza h2;have hg:=zzd h1;simp only [zzk,Bool.not_eq_true'] at hg;simp only at h4
            split at h4
            · rename_i dm hdm hnone;have:=zzc h4;exact .inr ⟨rfl,fns,ci,fn,ls,fr,u,dm,m1,m2,hfns,hci,hfn,hg.1.1,hg.1.2,hg.2,h3,hnone,this.symm⟩
            · exact (zzb h4).elim
    | some b =>
      simp only at h
      split at h
      · exact (zzb h).elim
      · rename_i fns hfns
        split at h
        · exact (zzb h).elim
        · rename_i ci hci
          split at h
          · exact (zzb h).elim
          · rename_i fn hfn;obtain ⟨_,m1,h1,h2⟩:=zza h;obtain ⟨⟨ls,fr,u⟩,m2,h3,h4⟩:=zza h2;have hg:=zzd h1;simp only [zzk,Bool.not_eq_true'] at hg;simp only at h4
            split at h4
            · rename_i dm hdm hnone;have:=zzc h4;exact .inr ⟨rfl,fns,ci,fn,ls,fr,u,dm,m1,m2,hfns,hci,hfn,hg.1.1,hg.1.2,hg.2,h3,hnone,this.symm⟩
            · exact (zzb h4).elim
theorem ig {ops : Array Oper} {o : Oper} {i id : Nat} {done : List Nat} {Q : Exit → Act → World → Prop} {K : Act → World → Prop} {as : List Bool} {wr : Wr (std E N)} {m m' : Nat}
    (hs:Sim P n0 nt β σ s a w) (gi:GI s done) (hg:∀ j want d,o.guard=some (j,want)→(ops[j]?).bind (·.dst)=some d→d∈done) (hdst:∀ d,o.dst=some d→d∉done∧d<nt)
    (hid:∀ n,id≤n→n<id+Bj P o→Fresh a s n) (ho:ops[i]?=some o) (h:RM.run s (Gh P cfg ops.toList o id) m=.ok (.plain as wr,m')) (has:∀ b∈as,b=true)
    (hK:∀ a' w',After P n0 nt (fun n=>id≤n∧n<id+Bj P o) β σ s a w o.dst wr a' w'→GI (s.apply wr) (o.dst.toList++done)→K a' w'):wpOp P ops Q i K a w:=by
  unfold Gh at h;obtain ⟨ctx,m1,h1,h2⟩:=zza h;obtain ⟨g,m2,h3,h4⟩:=zza h2;obtain ⟨c1,c2,c3⟩:=wm hs gi h1 hg;have hnew:∀ n,(id≤n∧n<id+Bj P o)→Fresh a s n:=fun n h=>hid n h.1 h.2
  have goW:∀ (hw:Region.wanted o (yielded ops a.tmps)=true),o.wp P a w K Q→wpOp P ops Q i K a w:=fun hw h=>by
    unfold wpOp;simp only [ho,hw,if_true];exact .inl h
  have goN:∀ (hw:¬ Region.wanted o (yielded ops a.tmps)=true),K (a.put o.dst undef) w→wpOp P ops Q i K a w:=fun hw h=>by
    unfold wpOp;simp only [ho,hw,if_false];exact h
  have hcases:=V1 h4;clear h4
  rcases hcases with ⟨sp,mm,hg0,hsp,h5⟩ | ⟨mm,h4⟩
  · have hctx:ctx=[]:=Jl (by rw [hg0] at h3;exact h3);subst hctx;have hf:Facts a []:=fun n b hm=>by simp at hm
    have hcnt:=qB (P:=P) hsp;obtain ⟨as',wr',hr,hok⟩:=sq hs hf (hid id (Nat.le_refl _) (by omega)) hsp h5;cases hr;obtain ⟨z,β',σ',w',r1,r2,r3,r4,r5,r6⟩:=hok has;have hw:∀ n,n=id→id≤n∧n<id+Bj P o:=fun n h=>by omega
    refine goW (c1.2 hf) ?_;unfold Oper.wp
    suffices key:K (a.put o.dst z) w' by
      rcases r1 with r1 | ⟨r1,rfl⟩
      · rw [r1];exact key
      · rw [r1];exact key
    rcases r6 with ⟨d,c,hd,ht,hrel,hnm⟩ | ⟨hd,ht⟩
    · have hwr:wr={ ts:=[(d,some ⟨[],c⟩)],bs:=[],hs:=wr.hs }:=by cases wr;simp only at ht r5;subst ht;subst r5;rfl
      have hdd:=hdst d hd;rw [hd] at hK ⊢;rw [hwr] at hK;exact hK _ _ (Kr (bs:=[]) hs gi hdd.1 hdd.2 hnew c2 r2 (r3.weaken hw) (r4.weaken hw) (.inl ⟨hf,hrel,fun n hn hnn=>hnm n hn (fun e=>hnn (hw n e))⟩)) (GI.put gi c2 rfl)
    · have hwr:wr={ ts:=[],bs:=[],hs:=wr.hs }:=by cases wr;simp only at ht r5;subst ht;subst r5;rfl
      rw [hd] at hK ⊢;rw [hwr] at hK;refine hK _ _ (cG hs hnew rfl r2 (r3.weaken hw) (r4.weaken hw)) ?_;intro n tv hn;rw [State.getT_apply0 s _ rfl] at hn;exact gi n tv hn
  unfold aU at h4
  split at h4
  ·
    rename_i T x y hop
    split at h4
    · exact (zzb h4).elim
    · have hctx:ctx=[]:=Jl h3;subst hctx;have hf:Facts a []:=fun n b hm=>by simp at hm
      obtain ⟨p,m3,h5,h6⟩:=zza h4;obtain ⟨v,m4,h7,h8⟩:=zza h6;obtain ⟨wr',m5,h9,h10⟩:=zza h8
      split at h10
      · rename_i hd;have hr:=zzc h10;simp only [StepRes.plain.injEq] at hr;obtain ⟨rfl,rfl⟩:=hr;obtain ⟨hp,_,_⟩:=CE hs hf h5;obtain ⟨hv,hvn⟩:=Kj hs hf h7;obtain ⟨w',r1,r2,r3,r4,r5⟩:=AAf (a:=a) hs.n0le hs.M hp hv.1 hvn h9;refine goW (c1.2 hf) ?_;unfold Oper.wp;have:(execOp a.eval o).run P w=.ok .skip w':=by simp [execOp,hop,r1]
        rw [this];show K (a.put o.dst undef) w';rw [hd];refine hK _ _ ?_ ?_
        · rw [hd];exact cG hs hnew r5 r2 (r3.weaken (fun n h=>h.elim)) (r4.weaken (fun n h=>h.elim))
        · rw [hd];intro n tv hn;rw [State.getT_apply0 s _ r5] at hn;exact gi n tv hn
      · exact (zzb h10).elim
  ·
    obtain ⟨f,m3,h5,h6⟩:=zza h4
    split at h6
    · split at h6
      · exact (zzb h6).elim
      · obtain ⟨_,m40,h60,h61⟩:=zza h6;obtain ⟨args,m4,h7,h8⟩:=zza h61
        rcases YI h8 with ⟨_,h9⟩ | ⟨_,fns,ci,fn,ls,fr,u,dm,m2,m3,_,_,_,_,_,_,_,_,h9⟩<;>cases h9
    · exact (zzb h6).elim
  ·
    rename_i hmem _ _
    split at h4
    · rename_i d hd;have hctx:ctx=[]:=Jl h3;subst hctx;have hf:Facts a []:=fun n b hm=>by simp at hm
      obtain ⟨⟨as',c,wr'⟩,m3,h5,h6⟩:=zza h4;have hr:=zzc h6;simp only [StepRes.plain.injEq] at hr;obtain ⟨rfl,rfl⟩:=hr;have hpos:=tF hmem;obtain ⟨z,β',σ',w',r1,r2,r3,r4,r5,r6,r7⟩:=ADx hs hf (hid id (Nat.le_refl _) (by omega)) h5 has;have hwr:wr'={ bs:=wr'.bs,hs:=wr'.hs }:=by cases wr';simp only at r7;subst r7;rfl
      refine goW (c1.2 hf) ?_;unfold Oper.wp;rw [r1];show K (a.put o.dst z) w';rw [hd];have hdd:=hdst d hd;refine hK _ _ ?_ ?_
      · rw [hd];rw [hwr] at r2 r3 r4 r5;exact Kr hs gi hdd.1 hdd.2 hnew c2 r2 (r3.weaken (fun n h=>by subst h;omega)) (r4.weaken (fun n h=>by subst h;omega)) (.inl ⟨hf,Aw r5,fun n hn hnn=>by
          have:=r6 n hn (fun e=>hnn (by subst e;omega));simpa [AV.names,one,AJ] using this⟩)
      · rw [hd];exact GI.put gi c2 rfl
    · rename_i d hd;obtain ⟨c,m3,h5,h6⟩:=zza h4;have hr:=zzc h6;simp only [StepRes.plain.injEq] at hr;obtain ⟨rfl,rfl⟩:=hr;have hpos:=tF hmem;have hdd:=hdst d hd
      by_cases hw:Region.wanted o (yielded ops a.tmps)=true
      · have hf:=c1.1 hw;obtain ⟨z,β',σ',w',r1,r2,r3,r4,r5,r6,r7⟩:=AEH hs hf (hid id (Nat.le_refl _) (by omega)) h5;refine goW hw ?_;unfold Oper.wp;rw [r1];show K (a.put o.dst z) w';rw [hd];refine hK _ _ ?_ ?_
        · rw [hd];exact Kr (bs:=[]) (hh:=[]) hs gi hdd.1 hdd.2 hnew c2 r2 (r3.weaken (fun n h=>by subst h;omega)) (r4.weaken (fun n h=>by subst h;omega)) (.inl ⟨hf,Aw r5,fun n hn hnn=>by
            have:=r6 n hn (fun e=>hnn (by subst e;omega));simpa [AV.names,one,AJ] using this⟩)
        · rw [hd];exact GI.put gi c2 rfl
      · refine goN hw ?_;rw [hd];have sub:Sub s (s.apply ({}:Wr (std E N))):=Sub.of_same (fun n=>State.getB_apply0 s _ rfl n) (fun n=>State.getH_apply0 s _ rfl n);refine hK _ _ ?_ ?_
        · rw [hd];exact Kr (bs:=[]) (hh:=[]) hs gi hdd.1 hdd.2 hnew c2 (sub.mem hs.M) (sub.ext P _ β σ w) (Tidy.of_sub (fr:=[]) (fun _ _ h=>by simp at h) rfl rfl rfl _) (.inr ⟨fun h=>hw (c1.2 h),rfl⟩)
        · rw [hd];exact GI.put gi c2 rfl
    · exact (zzb h4).elim
  ·
    split at h4
    · rename_i d hd;obtain ⟨⟨as',v,fr⟩,m3,h5,h6⟩:=zza h4;obtain ⟨fr',m4,h7,h8⟩:=zza h6;have hr:=zzc h8;simp only [StepRes.plain.injEq] at hr;obtain ⟨rfl,rfl⟩:=hr;obtain ⟨f1,f2⟩:=lw h7;have hdd:=hdst d hd;have sub:=f1.sub (wr:={ bs:=[],hs:=fr' }) rfl rfl
      by_cases hw:Region.wanted o (yielded ops a.tmps)=true
      · have hf:=c1.1 hw;refine goW hw ?_;have hgt:∀ b,g=some b→b=true:=gq hs hf h3;obtain ⟨z,r1,r2,r3,r4⟩:=ACa hs hf h5 (fun b hb=>by
          have:=has (sH g b) (List.mem_map.2 ⟨b,hb,rfl⟩);unfold sH at this;cases g with
          | none=>exact this
          | some g=>have:=hgt g rfl;subst this;simpa using this)
        have:=f2 r4;subst this;unfold Oper.wp;rw [r1];show K (a.put o.dst z) w;rw [hd];refine hK _ _ ?_ ?_
        · rw [hd];exact Kr (bs:=[]) hs gi hdd.1 hdd.2 hnew c2 (sub.mem hs.M) (sub.ext P _ β σ w) (Tidy.of_sub f1.pre rfl rfl rfl _) (.inl ⟨hf,r2,fun n hn _=>r3 n hn⟩)
        · rw [hd];exact GI.put gi c2 rfl
      · refine goN hw ?_;rw [hd];refine hK _ _ ?_ ?_
        · rw [hd];exact Kr (bs:=[]) hs gi hdd.1 hdd.2 hnew c2 (sub.mem hs.M) (sub.ext P _ β σ w) (Tidy.of_sub f1.pre rfl rfl rfl _) (.inr ⟨fun h=>hw (c1.2 h),rfl⟩)
        · rw [hd];exact GI.put gi c2 rfl
    · exact (zzb h4).elim
end
section
variable {E:Env} {N:Nat} {P:Program} {cfg:Cfg} {n0 n0':Nz} {nt:Nat} {β β':Nat→Option Nat} {σ σ':Nat→Option (Nat×Nat)} {s s':St0 E N} {a:Act} {w w':World}
theorem nv (hs : Sim P n0 nt β σ s a w) {ctx : List (Nat × Bool)} (hf : Facts a ctx) : ∀ {ts : List TypeId} {xs : List Operand} {vs : List (AV (std E N))} {m m' : Nat}, RM.run s (qD (O := std E N) P ctx ts xs) m = .ok (vs, m') →
    RelArgs P n0 β σ s w vs (xs.map a.eval)
  | [],[],vs,m,m',h=>by cases zzc h;trivial
  | t::ts,x::xs,vs,m,m',h=>by
    obtain ⟨v,m1,h1,h2⟩:=zza h;obtain ⟨r,m2,h3,h4⟩:=zza h2;cases zzc h4;exact ⟨(Xf hs hf h1).1,nv hs hf h3⟩
  | [],_::_,_,_,_,h=>(zzb h).elim
  | _::_,[],_,_,_,h=>(zzb h).elim
theorem AFM {c:AC0 E N} {l:Ad} {fr:List (Nat×Option (HEnt (std E N)))} {nw:Bool} {k k':Nat} (h:RM.run s (rD (O:=std E N) c) k=.ok ((l,fr,nw),k')):FrOK s fr:=by
 have nil:FrOK s ([]:List (Nat×Option (HEnt (std E N)))):=fun _ _ hm=>by simp at hm
 cases c with
 | own e id =>
  obtain ⟨k1,h⟩:=zzf h;cases hh:s.getH id with
  | none=>rw [hh] at h;exact (zzb h).elim
  | some en =>
   rw [hh] at h;cases zzc h;intro n v hm;simp only [List.mem_singleton,Prod.mk.injEq] at hm;obtain ⟨rfl,rfl⟩:=hm;exact ⟨en,hh,rfl⟩
 | int _ _=>cases zzc h;exact nil
 | bool _=>cases zzc h;exact nil
 | str _=>cases zzc h;exact nil
 | nil _=>cases zzc h;exact nil
 | imm _ _ _=>cases zzc h;exact nil
 | _=>exact (zzb h).elim
theorem xj:∀ {cs:List (AC0 E N)} {ls:List Ad} {fr:List (Nat×Option (HEnt (std E N)))} {nw:Bool} {k k':Nat},RM.run s (Ph (O:=std E N) cs) k=.ok ((ls,fr,nw),k')→FrOK s fr
 | [],ls,fr,nw,k,k',h=>by cases zzc h;exact fun _ _ hm=>by simp at hm
 | c::cs,ls,fr,nw,k,k',h=>by
  obtain ⟨⟨l,f1,n1⟩,k1,h1,h2⟩:=zza h;obtain ⟨⟨ls2,f2,n2⟩,k2,h3,h4⟩:=zza h2;cases zzc h4;exact (AFM h1).append (xj h3)
theorem dE:∀ {args:List (AV (std E N))} {gives:List Bool} {used u:List Nat} {ls:List Ad} {fr:List (Nat×Option (HEnt (std E N)))} {k k':Nat},RM.run s (M4 (O:=std E N) gives used args) k=.ok ((ls,fr,u),k')→FrOK s fr
 | [],gives,used,u,ls,fr,k,k',h=>by cases zzc h;exact fun _ _ hm=>by simp at hm
 | .tup y::args,gives,used,u,ls,fr,k,k',h=>by
  unfold M4 at h;exact (zzb h).elim
 | .val y::args,gives,used,u,ls,fr,k,k',h=>by
  cases hy:fnV y with
  | some f =>
   have:=wD hy;subst this;exact dE (gives:=gives.tail) h
  | none =>
   rw [sY hy] at h
   split at h
   ·obtain ⟨⟨ls1,u1⟩,k1,h1,h2⟩:=zza h;obtain ⟨⟨ls2,fr2,u2⟩,k2,h3,h4⟩:=zza h2;cases zzc h4;exact dE h3
   ·obtain ⟨⟨ls1,f1,nw1⟩,k1,h1,h2⟩:=zza h;obtain ⟨⟨ls2,fr2,u2⟩,k2,h3,h4⟩:=zza h2;cases zzc h4;exact (xj h1).append (dE h3)
theorem Xp {nw:Bool} {c:List PV}:∀ {ts:List TypeId} {j q:Nat} {cs:List (AC0 E N)} {hs:List (Nat×HEnt (std E N))},Az (O:=std E N) P (fun _=>false) nw c j q ts=some (cs,hs)→hs=[]
 | [],j,q,cs,hs,h=>by simp only [Az] at h;cases h;rfl
 | t::ts,j,q,cs,hs,h=>by
  simp only [Az] at h
  split at h<;>first
   | (obtain ⟨⟨r,hh⟩,h1,h2⟩:=zzp.1 h;cases h2;exact Xp h1)
   | cases h
theorem Zj {nw:Bool} {c:List PV}:∀ {ts:List TypeId} {j q:Nat} {vs:List (Val (std E N))} {hs:List (Nat×HEnt (std E N))},BR (O:=std E N) P (fun _=>false) nw c j q ts=some (vs,hs)→hs=[]
 | [],j,q,vs,hs,h=>by simp only [BR] at h;cases h;rfl
 | t::ts,j,q,vs,hs,h=>by
  simp only [BR] at h
  split at h
  ·cases h
  ·split at h
   ·cases h
   ·rename_i cs h1 hc
    split at h
    ·cases h
    ·rename_i vs2 h2 hv;cases h;rw [Xp hc,Zj hv];rfl
def AAi {α:Type} (g:Option α) (b:Bool):Bool:=match g with
 | none=>b
 | some _=>false
theorem AE3 {α:Type} (g:Option α) (ci:CI):AEf g ci.ow=CI.ow { ci with own:=AAi g ci.own }:=by cases g<;>rfl
theorem zx {ci:CI} (h:Bx P E N ci∧Bx P E N { ci with own:=false }) (g:Option Bool):Bx P E N { ci with own:=AAi g ci.own }:=by
 cases g with
 | none=>exact h.1
 | some b=>exact h.2
theorem ACI {q len:Nat} {nw:Bool} {c:AC0 E N} (h:OkC q len nw c):∀ n∈c.names,q≤n∧n<q+len:=by
 intro n hn;cases c with
 | own e k=>simp only [AC.names,List.mem_singleton] at hn;subst hn;exact h
 | int _ _=>simp [AC.names] at hn
 | bool _=>simp [AC.names] at hn
 | str _=>simp [AC.names] at hn
 | imm _ _ _=>simp [AC.names] at hn
 | _=>exact h.elim
theorem TU:∀ {vs:List (Val (std E N))} {n:Nat},n∈Bn vs→∃ v∈vs,n∈AJ v.cs
 | v::vs,n,h=>by
  simp only [Bn,List.mem_append] at h
  rcases h with h | h
  ·exact ⟨v,zzm,h⟩
  ·obtain ⟨u,hu,hn⟩:=TU h;exact ⟨u,zzn _ hu,hn⟩
theorem ABZ {q len:Nat} {nw:Bool} {vs:List (Val (std E N))} (h:∀ v∈vs,∀ x∈v.cs,OkC q len nw x):∀ n∈(LH vs).names,q≤n∧n<q+len:=by
 intro n hn;have:∃ v∈vs,n∈AJ v.cs:=by
  match vs,hn with
  | [x],hn=>exact ⟨x,zzm,hn⟩
  | [],hn=>exact TU hn
  | x::y::r,hn=>exact TU hn
 obtain ⟨v,hv,hm⟩:=this;obtain ⟨c,hc,hm⟩:=BP.1 hm;exact ACI (h v hv c hc) n hm
theorem kj {ops : Array Oper} {o : Oper} {i id : Nat} {done : List Nat} {Q : Exit → Act → World → Prop} {K : Act → World → Prop} {g : Option Bool} {f : FuncId} {fns : List Nat} {ls dm : List Ad} {next : List PV → Option (Wr (std E N))} {wr : Wr (std E N)} {m m' : Nat}
    (hΓ:∀ ci∈cfg.gam,Bx P E N ci∧Bx P E N { ci with own:=false })
    (hs:Sim P n0 nt β σ s a w) (gi:GI s done) (hg:∀ j want d,o.guard=some (j,want)→(ops[j]?).bind (·.dst)=some d→d∈done) (hdst:∀ d,o.dst=some d→d∉done∧d<nt)
    (hid:∀ n,id≤n→n<id+Bj P o→Fresh a s n) (ho:ops[i]?=some o) (h:RM.run s (Gh P cfg ops.toList o id) m=.ok (.call g f fns ls dm next,m'))
    {c:List PV} (hm:(match g with | none=>E f fns (ls.map Leaf.pv) | some b=>if b then E f fns (ls.map Leaf.pv) else some (dm.map Leaf.pv))=some c) (hn:next c=some wr)
    (hK:∀ a' w',After P n0 nt (fun n=>id≤n∧n<id+Bj P o) β σ s a w o.dst wr a' w'→GI (s.apply wr) (o.dst.toList++done)→K a' w'):wpOp P ops Q i K a w:=by
  unfold Gh at h;obtain ⟨ctx,m1,h1,h2⟩:=zza h;obtain ⟨g',m2,h3,h4⟩:=zza h2;obtain ⟨c1,c2,c3⟩:=wm hs gi h1 hg;have hnew:∀ n,(id≤n∧n<id+Bj P o)→Fresh a s n:=fun n h=>hid n h.1 h.2
  have hcases:=V1 h4;clear h4
  rcases hcases with ⟨sp,mm,hg0,hsp,h5⟩ | ⟨mm,h4⟩
  · have hctx:ctx=[]:=Jl (by rw [hg0] at h3;exact h3);subst hctx;have hcnt:=qB (P:=P) hsp;obtain ⟨as',wr',hr,hok⟩:=sq hs (fun n b hm=>by simp at hm) (hid id (Nat.le_refl _) (by omega)) hsp h5;cases hr
  unfold aU at h4
  split at h4
  · split at h4
    · exact (zzb h4).elim
    · obtain ⟨p,m3,h5,h6⟩:=zza h4;obtain ⟨v,m4,h7,h8⟩:=zza h6;obtain ⟨wr',m5,h9,h10⟩:=zza h8
      split at h10
      · cases zzc h10
      · exact (zzb h10).elim
  · rename_i fop args tys hop;obtain ⟨fv,m3,h5,h6⟩:=zza h4
    split at h6
    case h_2=>exact (zzb h6).elim
    rename_i f' caps
    split at h6
    case h_1=>exact (zzb h6).elim
    rename_i fn0 hfn0;obtain ⟨_,m40,h60,h61⟩:=zza h6;obtain ⟨avs,m4,h7,h8⟩:=zza h61
    rcases YI h8 with ⟨_,h9⟩ | ⟨hcaps,fns',ci,fn,ls',fr,u,dm',m2,m3,q1,q2,q3,q4,q5,q6,q7,q8,h9⟩
    · cases h9
    · cases h9;subst hcaps;obtain ⟨ciM,ciF,ciN⟩:=tU q2;have hcnt:Bj P o=16:=by unfold Bj;rw [hop]
      have hfr:=dE q7;unfold wW at hn
      split at hn
      · cases hn
      · rename_i vs nh hb
        split at hn
        case h_2=>cases hn
        rename_i hle;have hle:=Nat.le_of_ble_eq_true hle;cases hn;obtain ⟨row1,okh,okc⟩:=Vy hb;generalize hHS:(match ci.nw with | true=>[] | false=>fr)++(u.map (fun n=>(n,none))++nh.map fun (n,h)=>(n,some h))=HS at hK;have hnames:∀ n,¬ (id≤n∧n<id+Bj P o)→n∉(LH vs).names:=fun n hn hm=>hn (by
          have:=ABZ okc n hm;omega)
        have fin : ∀ (z : Value) (w' : World) (β' : Nat → Option Nat) (σ' : Nat → Option (Nat × Nat)), Mem P n0 β' σ' (s.apply { bs := [], hs := HS }) w' → Ext P (fun n => id ≤ n ∧ n < id + Bj P o) β σ s w β' σ' (s.apply { bs := [], hs := HS }) w' →
            Tidy a (fun n=>id≤n∧n<id+Bj P o) s (s.apply { bs:=[],hs:=HS }) →
            ((Facts a ctx∧RelAV P n0 β' σ' (s.apply { bs:=[],hs:=HS }) w' (LH vs) z)∨(¬ Facts a ctx∧z=undef))→K (a.put o.dst z) w':=fun z w' β' σ' hm hx ht hz=>by
          cases hd:o.dst with
          | some d =>
            rw [hd] at hK;have hdd:=hdst d hd;exact hK _ _ (Kr (bs:=[]) hs gi hdd.1 hdd.2 hnew c2 hm hx ht (hz.imp (fun h=>⟨h.1,h.2,fun n _ hn=>hnames n hn⟩) (fun h=>h))) (GI.put gi c2 rfl)
          | none =>
            rw [hd] at hK;refine hK _ _ (cG hs hnew rfl hm hx ht) ?_;intro n tv hn;rw [State.getT_apply0 s _ rfl] at hn;exact gi n tv hn
        by_cases hw:Region.wanted o (yielded ops a.tmps)=true
        · have hf:=c1.1 hw;have hgt:∀ b,g=some b→b=true:=gq hs hf h3;have hE:E f fns (ls.map Leaf.pv)=some c:=by
            cases g with
            | none=>exact hm
            | some b=>have:=hgt b rfl;subst this;simpa using hm
          have hfv:=(Xf hs hf h5).1;have hargs:=nv hs hf h7;have hval:Bx P E N { ci with own:=AAi g ci.own }:=zx (hΓ ci ciM) g;have hev:a.eval fop=.func (.func f) #[] #[]:=by
            obtain ⟨hr1,hr2⟩:=hfv;have hr2:(a.eval fop).oneCell'=true:=hr2;rw [BS hr2] at hr1;obtain ⟨vs2,e1,e2,_⟩:=hr1.1;have:vs2=[]:=List.length_eq_zero_iff.1 (by simpa using e2);subst this;exact e1
          have hnb:fn.body.isNone=false:=by cases hb:fn.body<;>simp_all
          have hex:(execOp a.eval o).run P w=.ok (.enter f (args.map a.eval)) w:=by
            simp only [beq_eq_false_iff_ne,ne_eq] at q5;simp [execOp,hop,resolve,Deferred.ofValue,hev,invoke,callFunc,q3,q5,hnb];intro hbn;rw [hbn] at q4;cases q4
          rw [AE3 g ci] at hb;have hcall:=AFE (a:=a) hs.n0le hs.M hs.kept hval (fn:=fn) (by rw [← ciF] at q3;exact q3) hargs q6 (by rw [← ciN] at q1;exact q1) q7 q8 (rs:=c) (by show E ci.f ci.fns _=_;rw [ciF,ciN];exact hE) (id:=id) hb
            (fun n h1 h2=>hid n h1 (by omega)) (wr:={ bs:=[],hs:=HS }) rfl rfl hHS.symm
          unfold wpOp;simp only [ho,hw,if_true];refine .inl ?_;unfold Oper.wp;rw [hex];have harr:(args.toList.map a.eval).toArray=args.map a.eval:=by apply Array.ext';simp
          rw [harr] at hcall;rw [show ({ ci with own:=AAi g ci.own }:CI).f=f from ciF] at hcall;refine Calls.mono hcall (fun e w' hp=>?_);cases e with
          | panicked ch=>exact hp.elim
          | outgrown=>exact hp.elim
          | returned v =>
            obtain ⟨σ',r1,r2,r3,r4⟩:=hp;exact fin v w' β σ' r1 (r2.weaken (fun n h=>⟨h.1,by omega⟩)) (r3.weaken (fun n h=>⟨h.1,by omega⟩)) (.inl ⟨hf,r4⟩)
        · have hgs : ∃ b, g = some b := by
            cases g with
            | none=>exact (hw (c1.2 (by rw [Jl h3];intro n b hm;simp at hm))).elim
            | some b=>exact ⟨b,rfl⟩
          obtain ⟨b,hgb⟩:=hgs;have hnh:nh=[]:=by rw [hgb] at hb;exact Zj hb
          have hpre:PreOK s HS:=by
            rw [← hHS,hnh];intro n v hm
            rcases List.mem_append.1 hm with hm | hm
            · split at hm
              · simp at hm
              · exact .inr (hfr n v hm)
            · rcases List.mem_append.1 hm with hm | hm
              · obtain ⟨k,_,e⟩:=List.mem_map.1 hm;cases e;exact .inl rfl
              · simp at hm
          have sub:=hpre.sub (wr:={ bs:=[],hs:=HS }) rfl rfl;unfold wpOp;simp only [ho,hw,if_false];exact fin undef w β σ (sub.mem hs.M) (sub.ext P _ β σ w) (Tidy.of_sub hpre rfl rfl rfl _) (.inr ⟨fun h=>hw (c1.2 h),rfl⟩)
  · split at h4
    · obtain ⟨⟨as',c',wr'⟩,m3,h5,h6⟩:=zza h4;cases zzc h6
    · obtain ⟨c',m3,h5,h6⟩:=zza h4;cases zzc h6
    · exact (zzb h4).elim
  · split at h4
    · obtain ⟨⟨as',v,fr⟩,m3,h5,h6⟩:=zza h4;obtain ⟨fr',m4,h7,h8⟩:=zza h6;cases zzc h8
    · exact (zzb h4).elim
end
section
variable {E:Env} {N:Nat} {P:Program} {cfg:Cfg} {n0 n0':Nz} {nt:Nat} {β β':Nat→Option Nat} {σ σ':Nat→Option (Nat×Nat)} {s s':St0 E N} {a:Act} {w w':World}
structure Post (P : Program) (n0 : Nz) (nt L : Nat) (D : Nat → Prop) (β : Nat → Option Nat) (σ : Nat → Option (Nat × Nat)) (s : St0 E N) (a : Act) (w : World)
    (β':Nat→Option Nat) (σ':Nat→Option (Nat×Nat)) (s':St0 E N) (a':Act) (w':World):Prop where
  sim:Sim P n0 nt β' σ' s' a' w'
  ext:Ext P (fun n=>L≤n) β σ s w β' σ' s' w'
  cleanB:∀ n e,s'.getB n=some e→e.dirty=false→s.getB n=some e
  cleanH:∀ n e,s'.getH n=some e→e.dirty=false→s.getH n=some e
  defers:a'.defers=a.defers
  tmps:∀ n,¬ D n→a'.tmps.getD n undef=a.tmps.getD n undef
theorem Post.trans {L L' : Nat} {D D' : Nat → Prop} {β'' : Nat → Option Nat} {σ'' : Nat → Option (Nat × Nat)} {s'' : St0 E N} {a' a'' : Act} {w'' : World} (h : Post P n0 nt L D β σ s a w β' σ' s' a' w') (k : Post P n0 nt L' D' β' σ' s' a' w' β'' σ'' s'' a'' w'') (hl : L ≤ L') :
    Post P n0 nt L (fun n=>D n∨D' n) β σ s a w β'' σ'' s'' a'' w'' :=
  ⟨k.sim,(h.ext.trans k.ext).weaken (fun n hn=>hn.elim (fun h=>h) (fun h=>Nat.le_trans hl h)),fun n e h1 h2=>h.cleanB n e (k.cleanB n e h1 h2) h2,fun n e h1 h2=>h.cleanH n e (k.cleanH n e h1 h2) h2,
    k.defers.trans h.defers,fun n hn=>(k.tmps n (fun h=>hn (.inr h))).trans (h.tmps n (fun h=>hn (.inl h)))⟩
theorem Vf:∀ {as:List Bool} {m:Option (List PV)} {r:List PV},Wy (O:=std E N) as m=some r→(∀ b∈as,b=true)∧m=some r
 | [],m,r,h=>⟨fun b hb=>by simp at hb,h⟩
 | b::as,m,r,h=>by
  have h':(cond b (Wy (O:=std E N) as m) none)=some r:=h;cases b with
  | false=>simp at h'
  | true =>
   obtain ⟨h1,h2⟩:=Vf (as:=as) (by simpa using h');exact ⟨fun b hb=>(List.mem_cons.1 hb).elim (fun e=>e) (h1 b),h2⟩
def Ma (s:St0 E N) (n:Nat):Prop:=(∀ k e,s.getB k=some e→n≠k∧n∉AJ e.cs)∧∀ k e,s.getH k=some e→n≠k
abbrev Inl (E:Env) (N:Nat):=FuncId→List (AV (std E N))→St0 E N→(AV (std E N)→St0 E N→Option (List PV))→Option (List PV)
def vZ (P:Program) (inl:Inl E N):Prop :=
  ∀ f (args:List (AV (std E N))) (s:St0 E N) k r,inl f args s k=some r→∀ (n0:Nz) β σ (w:World) (vals:List Value),n0.n≤w.heap.size→Mem P n0 β σ s w→Kept P β σ s w →
    (∀ n,s.st≤n→Ma s n)→(∀ x∈args,∀ n∈x.names,n<s.st)→RelArgs P n0 β σ s w args vals →
    Calls P f vals.toArray w fun
      | .returned v, w' => ∃ (av : AV (std E N)) (s' : St0 E N) (β' : Nat → Option Nat) (σ' : Nat → Option (Nat × Nat)), k av s' = some r ∧ s'.tm = s.tm ∧ s.st ≤ s'.st ∧ Mem P n0 β' σ' s' w' ∧ Ext P (fun n => s.st ≤ n) β σ s w β' σ' s' w' ∧
          (∀ n e,s'.getB n=some e→e.dirty=false→s.getB n=some e)∧(∀ n e,s'.getH n=some e→e.dirty=false→s.getH n=some e) ∧
          RelAV P n0 β' σ' s' w' av v∧∀ n,s'.st≤n→Ma s' n∧n∉av.names
      | _,_=>False
theorem After.post {id : Nat} {dst : Option Nat} {wr : Wr (std E N)} {a' : Act} {n : Nat} (h : After P n0 nt (fun k => id ≤ k ∧ k < id + n) β σ s a w dst wr a' w') :
    ∃ β' σ',Post P n0 nt id (fun k=>dst=some k) β σ s a w β' σ' (s.apply wr) a' w'∧(∀ k,(∀ j,id≤j→Fresh a s j)→id+n≤k→Fresh a' (s.apply wr) k):=by
  obtain ⟨β',σ',h1,h2,h3,h4,h5,h6,h7⟩:=h;exact ⟨β',σ',⟨h1,h2.weaken (fun k h=>h.1),h4,h5,h6,fun k hk=>h7 k hk⟩,fun k hf hk=>h3 k (hf k (by omega)) (by omega)⟩
theorem tC {ops:List Oper}:∀ {rest:List Oper} {i:Nat} {bs:List Nat},Ei ops i bs rest=true→∀ (k:Nat) (o:Oper),rest[k]?=some o→∀ j want,o.guard=some (j,want)→j<i+k
 | o::rest,i,b::bs,h,k,o',hk,j,want,hg=>by
  simp only [Ei] at h;cases k with
  | zero =>
   simp at hk;subst hk;rw [hg] at h;simp only [zzk] at h;exact Bm.1 h.1.1.1
  | succ k =>
   have h2:Ei ops (i+1) bs rest=true:=by
    split at h
    ·exact h
    ·simp only [zzk] at h;exact h.2
   have:=tC h2 k o' (by simpa using hk) j want hg;omega
 | [],_,_,_,k,o',hk,_,_,_=>by simp at hk
 | _::_,_,[],h,_,_,_,_,_,_=>by simp [Ei] at h
theorem RH:∀ (a b:List Oper),Al (a++b)=Al a++Al b
 | [],b=>rfl
 | o::a,b=>by
  simp only [List.cons_append,Al,RH a b];cases o.dst<;>rfl
theorem Jh:∀ {l:List Oper} {k:Nat} {o:Oper} {d:Nat},l[k]?=some o→o.dst=some d→d∈Al l
 | x::l,0,o,d,h,hd=>by
  simp at h;subst h;simp [Al,hd]
 | x::l,k+1,o,d,h,hd=>by
  have:=Jh (l:=l) (k:=k) (by simpa using h) hd;simp only [Al];cases x.dst with
  | none=>exact this
  | some y=>exact zzn _ this
 | [],k,o,d,h,_=>by simp at h
theorem GI.mono {d d':List Nat} (gi:GI s d) (h:∀ x∈d,x∈d'):GI s d':=fun n tv hn g hg=>h _ (gi n tv hn g hg)
theorem mE (hs : Sim P n0 nt β σ s a w) {ctx : List (Nat × Bool)} (hf : Facts a ctx) : ∀ {ts : List TypeId} {xs : List Operand} {vs : List (AV (std E N))} {m m' : Nat}, RM.run s (qD (O := std E N) P ctx ts xs) m = .ok (vs, m') →
    ∀ x∈vs,∀ n,Fresh a s n→n∉x.names
  | [],[],vs,m,m',h=>by cases zzc h;intro x hx;simp at hx
  | t::ts,x::xs,vs,m,m',h=>by
    obtain ⟨v,m1,h1,h2⟩:=zza h;obtain ⟨r,m2,h3,h4⟩:=zza h2;cases zzc h4;intro y hy
    rcases List.mem_cons.1 hy with rfl | hy
    · exact (Xf hs hf h1).2
    · exact mE hs hf h3 y hy
  | [],_::_,_,_,_,h=>(zzb h).elim
  | _::_,[],_,_,_,h=>(zzb h).elim
theorem RelArgs.append:∀ {xs ys:List (AV (std E N))} {us vs:List Value},RelArgs P n0 β σ s w xs us→RelArgs P n0 β σ s w ys vs→RelArgs P n0 β σ s w (xs++ys) (us++vs)
 | [],_,[],_,_,h=>h
 | x::xs,_,u::us,_,h,h'=>⟨h.1,RelArgs.append h.2 h'⟩
 | [],_,_::_,_,h,_=>h.elim
 | _::_,_,[],_,h,_=>h.elim
theorem Ext.relArgs (x:Ext P (fun _=>False) β σ s w β' σ' s' w'):∀ {xs:List (AV (std E N))} {vs:List Value},RelArgs P n0 β σ s w xs vs→RelArgs P n0 β' σ' s' w' xs vs
 | [],[],h=>h
 | y::xs,v::vs,h=>⟨x.relAV (fun _ _ h=>h) h.1,x.relArgs h.2⟩
 | [],_::_,h=>h.elim
 | _::_,[],h=>h.elim
theorem xC : ∀ {caps : List (Nat × Nat)} {vs : List Value}, vs.length = caps.length → (∀ (i b o : Nat), caps[i]? = some (b, o) → ∃ x : Value, vs[i]? = some x ∧ Mr β s b o x) →
    RelArgs P n0 β σ s w (caps.map fun (b,o)=>(one (.ptr b o):AV (std E N))) vs
  | [],[],_,_=>trivial
  | (b,o)::caps,v::vs,hl,h=>by
    obtain ⟨x,hx,hr⟩:=h 0 b o rfl;simp at hx;subst hx;exact ⟨Aw hr,xC (by simpa using hl) (fun i b o hc=>by
      obtain ⟨y,hy,hr2⟩:=h (i+1) b o (by simpa using hc);exact ⟨y,by simpa using hy,hr2⟩)⟩
  | [],_::_,hl,_=>by simp at hl
  | _::_,[],hl,_=>by simp at hl
theorem AA3 {ops : Array Oper} {o : Oper} {id : Nat} {f : FuncId} {args : List (AV (std E N))} {m m' : Nat} (h : RM.run s (Gh P cfg ops.toList o id) m = .ok (.inl f args, m')) :
    ∃ fop cargs tys caps avs fn m1 m2 m3 m4 m5,o.op=.call ⟨.value fop,cargs,tys⟩∧RM.run s (oU (O:=std E N) ops.toList o) m=.ok ([],m1)∧RM.run s (ev (O:=std E N) P [] 0 fop) m2=.ok (.val ⟨false,[.fn f caps]⟩,m3) ∧
      P.funcs[f]? = some fn ∧ fn.body.isSome = true ∧ (fn.name == "runtime.NumGoroutine") = false ∧ RM.run s (qD (O := std E N) P [] (fn.params.toList.take cargs.size) cargs.toList) m4 = .ok (avs, m5) ∧ args = avs ++ caps.map fun (b, o) => one (.ptr b o) := by
  unfold Gh at h;obtain ⟨ctx,m1,h1,h2⟩:=zza h;obtain ⟨g',m2,h3,h4⟩:=zza h2;have hcases:=V1 h4;clear h4
  rcases hcases with ⟨sp,mm,hg0,hsp,h5⟩ | ⟨mm,h4⟩
  · obtain ⟨as',wr',hr⟩:=yF h5;cases hr
  unfold aU at h4
  split at h4
  · split at h4
    · exact (zzb h4).elim
    · obtain ⟨p,m3,h5,h6⟩:=zza h4;obtain ⟨v,m4,h7,h8⟩:=zza h6;obtain ⟨wr',m5,h9,h10⟩:=zza h8
      split at h10
      · cases zzc h10
      · exact (zzb h10).elim
  · rename_i fop cargs tys hop;obtain ⟨fv,m3,h5,h6⟩:=zza h4
    split at h6
    case h_2=>exact (zzb h6).elim
    rename_i f' caps
    split at h6
    case h_1=>exact (zzb h6).elim
    rename_i fn0 hfn0;obtain ⟨_,m40,h60,h61⟩:=zza h6;obtain ⟨avs,m4,h7,h8⟩:=zza h61;have hg:=zzd h60;simp only [zzk,Bool.not_eq_true'] at hg
    rcases YI h8 with ⟨hgn,h9⟩ | ⟨hcaps,fns',ci,fn,ls',fr,u,dm',m2,m3,q1,q2,q3,q4,q5,q6,q7,q8,h9⟩
    · subst hgn;have hc:=Jl h3;subst hc;cases h9;exact ⟨fop,cargs,tys,caps,avs,fn0,_,_,_,_,_,hop,h1,h5,hfn0,hg.1,hg.2,h7,rfl⟩
    · cases h9
  · split at h4
    · obtain ⟨⟨as',c',wr'⟩,m3,h5,h6⟩:=zza h4;cases zzc h6
    · obtain ⟨c',m3,h5,h6⟩:=zza h4;cases zzc h6
    · exact (zzb h4).elim
  · split at h4
    · obtain ⟨⟨as',v,fr⟩,m3,h5,h6⟩:=zza h4;obtain ⟨fr',m4,h7,h8⟩:=zza h6;cases zzc h8
    · exact (zzb h4).elim
theorem AFY (hs : Sim P n0 nt β σ s a w) {done : List Nat} (gi : GI s done) {d : Nat} (hd : d ∉ done) (hdn : d < nt) {new : Nat → Prop} (hnew : ∀ n, new n → Fresh a s n) {s2 : St0 E N} (htm : s2.tm = s.tm)
    (x:Ext P new β σ s w β' σ' s2 w') (m:Mem P n0 β' σ' s2 w') {av:AV (std E N)} {z:Value} (hr:RelAV P n0 β' σ' s2 w' av z) :
    Sim P n0 nt β' σ' { s2 with tm:=HX s2.tm d (some ⟨[],av⟩) } (a.put (some d) z) w':=by
  have gT:∀ n,({ s2 with tm:=HX s2.tm d (some ⟨[],av⟩) }:St0 E N).getT n=if n=d∧d<Du then some ⟨[],av⟩ else s.getT n:=fun n=>by
    unfold State.getT;rw [← htm];exact EB _ _ _ _
  have sub:Sub s2 ({ s2 with tm:=HX s2.tm d (some ⟨[],av⟩) }:St0 E N):=Sub.of_same (fun _=>rfl) (fun _=>rfl);have x2:=sub.ext P (fun _=>False) β' σ' w';have ne:∀ {g:Nat×Bool},g.1∈done→g.1≠d:=fun hg e=>hd (e▸hg)
  refine ⟨Nat.le_trans hs.n0le x.size,by simp [Act.put,hs.size],fun n tv hn=>?_,sub.mem m,(hs.kept.ext x).ext x2⟩;rw [gT] at hn
  split at hn
  · rename_i he;cases hn;rw [he.1,M7 (by rw [hs.size];exact hdn)];exact .inl ⟨fun n b hm=>by simp at hm,x2.relAV (fun _ _ h=>h) hr⟩
  · rename_i he;have hnd:n≠d:=fun e=>by
      by_cases hb:d<Du
      · exact he ⟨e,hb⟩
      · rw [e,xk hb] at hn;cases hn
    rw [FM hnd];have hg:∀ g∈tv.gs,g.1≠d:=fun g hg=>ne (gi n tv hn g hg)
    rcases hs.T n tv hn with ⟨h1,h2⟩ | ⟨h1,h2⟩
    · exact .inl ⟨(Gv hg).2 h1,x2.relAV (fun _ _ h=>h) (x.relAV (fun k hk hnw=>(hnew k hnw).t n tv hn h1 hk) h2)⟩
    · exact .inr ⟨fun h=>h1 ((Gv hg).1 h),h2⟩
theorem cX (inl : Inl E N) (hInl : vZ P inl) (hΓ : ∀ ci ∈ cfg.gam, Bx P E N ci ∧ Bx P E N { ci with own := false }) {ops : Array Oper} (hnd : (Al ops.toList).Nodup)
    (hg:∀ (k:Nat) (o:Oper),ops.toList[k]?=some o→∀ j want,o.guard=some (j,want)→j<k) (hdn:∀ d∈Al ops.toList,d<nt) {Q:Exit→Act→World→Prop} {r:List PV} :
    ∀ (rest pre:List Oper) (id:Nat) (s:St0 E N) (ms:List (Nat×Nat)) (k:St0 E N→List (Nat×Nat)→Option (List PV)) (β:Nat→Option Nat) (σ:Nat→Option (Nat×Nat)) (a:Act) (w:World),ops.toList=pre++rest →
      H0 (O:=std E N) P cfg inl ops.toList false rest id s ms k=some r→Sim P n0 nt β σ s a w→GI s (Al pre)→(∀ n,id≤n→Fresh a s n) →
      (∀ (s':St0 E N) (ms':List (Nat×Nat)) (id':Nat) (β':Nat→Option Nat) (σ':Nat→Option (Nat×Nat)) (a':Act) (w':World),k { s' with st:=id' } ms'=some r→Post P n0 nt id (fun n=>n∈Al rest) β σ s a w β' σ' s' a' w'→id≤id'→(∀ n,id'≤n→Fresh a' s' n)→GI s' (Al ops.toList)→Q .normal a' w') →
      wpOps P ops Q (List.range' pre.length rest.length) a w
  | [],pre,id,s,ms,k,β,σ,a,w,hops,h,hs,gi,hf,hQ=>by
    have:H0 (O:=std E N) P cfg inl ops.toList false [] id s ms k=k { s with st:=id } ms:=rfl;rw [this] at h;refine hQ s ms id β σ a w h ⟨hs,Ext.refl _ _ _ _ _ _,fun n e h _=>h,fun n e h _=>h,rfl,fun _ _=>rfl⟩ (Nat.le_refl _) hf ?_;rw [hops];simpa using gi
  | o::rest,pre,id,s,ms,k,β,σ,a,w,hops,h,hs,gi,hf,hQ=>by
    have hgetL:ops.toList[pre.length]?=some o:=by rw [hops,List.getElem?_append_right (Nat.le_refl _)];simp
    have hget:ops[pre.length]?=some o:=by rw [← Array.getElem?_toList];exact hgetL
    have hdl:Al ops.toList=Al pre++(o.dst.toList++Al rest):=by
      rw [hops,RH];congr 1;simp only [Al];cases o.dst<;>rfl
    rw [hdl] at hnd;have hnd2:=(List.nodup_append.1 hnd);have hdone:∀ j want d,o.guard=some (j,want)→(ops[j]?).bind (·.dst)=some d→d∈Al pre:=fun j want d h1 h2=>by
      have hj:=hg pre.length o hgetL j want h1;obtain ⟨x,hx,hxd⟩:=Option.bind_eq_some_iff.1 h2;rw [← Array.getElem?_toList,hops,List.getElem?_append_left hj] at hx;exact Jh hx hxd
    have hdst:∀ d,o.dst=some d→d∉Al pre∧d<nt:=fun d hd=>by
      refine ⟨fun hm=>hnd2.2.2 d hm d (by simp [hd]) rfl,hdn d (by rw [hdl];simp [hd])⟩
    have hpre2:ops.toList=(pre++[o])++rest:=by rw [hops];simp
    have hlen:(pre++[o]).length=pre.length+1:=by simp
    have hgi2:∀ {s':St0 E N},GI s' (o.dst.toList++Al pre)→GI s' (Al (pre++[o])):=fun {s'} g=>g.mono (fun x hx=>by
      rw [RH]
      rcases List.mem_append.1 hx with h | h
      · refine List.mem_append_right _ ?_;simp only [Al];cases hd:o.dst with
        | none=>rw [hd] at h;simp at h
        | some d=>rw [hd] at h;simpa using h
      · exact List.mem_append_left _ h)
    have next : ∀ (wr : Wr (std E N)) (ms2 : List (Nat × Nat)), H0 (O := std E N) P cfg inl ops.toList false rest (id + Bj P o) (s.apply wr) ms2 k = some r → ∀ a' w', After P n0 nt (fun n => id ≤ n ∧ n < id + Bj P o) β σ s a w o.dst wr a' w' → GI (s.apply wr) (o.dst.toList ++ Al pre) →
        wpOps P ops Q (List.range' (pre.length+1) rest.length) a' w':=fun wr ms2 h a' w' ha hg2=>by
      obtain ⟨β',σ',p1,p2⟩:=ha.post;rw [← hlen];refine cX inl hInl hΓ (by rw [hdl];exact hnd) hg hdn rest (pre++[o]) (id+Bj P o) (s.apply wr) ms2 k β' σ' a' w' hpre2 h p1.sim (hgi2 hg2) (fun n hn=>p2 n hf hn) (fun s' ms' id' β'' σ'' a'' w'' hk hp hle hf' hg'=>?_);have hpt:=p1.trans hp (Nat.le_add_right _ _);refine hQ s' ms' id' β'' σ'' a'' w'' hk ⟨hpt.sim,hpt.ext,hpt.cleanB,hpt.cleanH,hpt.defers,fun n hn=>hpt.tmps n (fun h=>hn ?_)⟩ (by omega) hf' hg';simp only [Al]
      rcases h with h | h
      · rw [h];simp
      · cases o.dst with
        | none=>exact h
        | some d=>exact zzn _ h
    rw [List.length_cons,List.range'_succ,wpOps_cons];unfold H0 at h
    split at h
    · cases h
    · rename_i as wr rd hrun;obtain ⟨has,h2⟩:=Vf h;exact ig hs gi hdone hdst (fun n h1 _=>hf n h1) hget hrun has (fun a' w' ha hg2=>next wr _ h2 a' w' ha hg2)
    · rename_i g f fns args dm nx rd hrun;obtain ⟨c,hc,h2⟩:=Option.bind_eq_some_iff.1 h
      split at h2
      · cases h2
      · rename_i wr hn;exact kj hΓ hs gi hdone hdst (fun n h1 _=>hf n h1) hget hrun (c:=c) (by
          cases g with
          | none=>exact hc
          | some b=>cases b<;>exact hc) hn (fun a' w' ha hg2=>next wr _ h2 a' w' ha hg2)
    · rename_i f args rd hrun;obtain ⟨fop,cargs,tys,caps,avs,fn,m1,m2,m3,m4,m5,hop,hctx,hev,hfn,hbody,hname,hall,rfl⟩:=AA3 hrun;have hf0:Facts a []:=fun n b hm=>by simp at hm
      have hw:=(wm hs gi hctx hdone).1.2 hf0;obtain ⟨hv1,hvn⟩:=Xf hs hf0 hev;have hargs:=nv hs hf0 hall;have hnm:=mE hs hf0 hall;obtain ⟨vs,e1,e2,e3⟩:∃ vs:List Value,a.eval fop=.func (.func f) #[] vs.toArray∧vs.length=caps.length∧∀ (i b o:Nat),caps[i]?=some (b,o)→∃ x:Value,vs[i]?=some x∧Mr β s b o x:=by
        obtain ⟨hr1,hr2⟩:=hv1;have hr2:(a.eval fop).oneCell'=true:=hr2;rw [BS hr2] at hr1;exact hr1.1
      have hnb:fn.body.isNone=false:=by cases hb:fn.body<;>simp_all
      have hex:(execOp a.eval o).run P w=.ok (.enter f (cargs.map a.eval++vs.toArray)) w:=by
        simp only [beq_eq_false_iff_ne,ne_eq] at hname;simp [execOp,hop,resolve,Deferred.ofValue,e1,invoke,callFunc,hfn,hname,hnb];intro hbn;rw [hbn] at hbody;cases hbody
      have subst0:Sub s ({ s with st:=id+Bj P o }:St0 E N):=Sub.of_same (fun _=>rfl) (fun _=>rfl);have hcall:=hInl f _ _ _ r h n0 β σ w (cargs.toList.map a.eval++vs) hs.n0le (subst0.mem hs.M) (hs.kept.ext (subst0.ext P (fun _=>False) β σ w)) (fun n hn=>⟨fun q e he=>(hf n (by have:id+Bj P o≤n:=hn;omega)).b q e he,fun q e he=>(hf n (by have:id+Bj P o≤n:=hn;omega)).h q e he⟩)
        (fun x hx n hn=>by
          rcases Nat.lt_or_ge n (id+Bj P o) with h | h
          · exact h
          · have hfn:=hf n (by omega)
            rcases List.mem_append.1 hx with hx | hx
            · exact (hnm x hx n hfn hn).elim
            · obtain ⟨p,hp,rfl⟩:=List.mem_map.1 hx;refine (hvn n hfn ?_).elim;have:n=p.1:=by simpa [AV.names,one,AJ,AC.names] using hn
              simp only [AV.names,AJ,AC.names,List.append_nil];exact List.mem_map.2 ⟨p,hp,this.symm⟩)
        (by
          exact (subst0.ext P (fun _=>False) β σ w).relArgs (RelArgs.append hargs (xC (n0:=n0) (P:=P) (σ:=σ) (w:=w) e2 e3)))
      unfold wpOp;simp only [hget,hw,if_true];refine .inl ?_;unfold Oper.wp;rw [hex];have harr:(cargs.toList.map a.eval++vs).toArray=cargs.map a.eval++vs.toArray:=by apply Array.ext';simp
      rw [harr] at hcall;refine Calls.mono hcall (fun e w' hp=>?_);cases e with
      | panicked ch=>exact hp.elim
      | outgrown=>exact hp.elim
      | returned v =>
        obtain ⟨av,s2,β',σ',hk,htm,hst,hm,hx,hcb,hch,hrel,hfr⟩:=hp;have hst':id+Bj P o≤s2.st:=hst;have x0:Ext P (fun n=>id≤n) β σ s w β' σ' s2 w':=((subst0.ext P (fun _=>False) β σ w).trans hx).weaken (fun n h=>h.elim (fun h=>h.elim) (fun h=>by have:id+Bj P o≤n:=h;omega));have hnew:∀ n,id≤n→Fresh a s n:=hf;have gT2:∀ n,s2.getT n=s.getT n:=fun n=>by unfold State.getT;rw [show s2.tm=s.tm from htm]
        rw [← hlen];have tail : ∀ (s3 : St0 E N) (a3 : Act), H0 (O := std E N) P cfg inl ops.toList false rest s2.st s3 (ms ++ [(0, 0)]) k = some r → Post P n0 nt id (fun n => o.dst = some n) β σ s a w β' σ' s3 a3 w' → GI s3 (o.dst.toList ++ Al pre) → (∀ n, s2.st ≤ n → Fresh a3 s3 n) →
            wpOps P ops Q (List.range' (pre++[o]).length rest.length) a3 w':=fun s3 a3 hk3 hp3 hg3 hf3=>by
          refine cX inl hInl hΓ (by rw [hdl];exact hnd) hg hdn rest (pre++[o]) s2.st s3 (ms++[(0,0)]) k β' σ' a3 w' hpre2 hk3 hp3.sim (hgi2 hg3) hf3 (fun s' ms' id' β'' σ'' a'' w'' hkk hpp hle hf' hg'=>?_);have hpt:=hp3.trans hpp (by omega);refine hQ s' ms' id' β'' σ'' a'' w'' hkk ⟨hpt.sim,hpt.ext,hpt.cleanB,hpt.cleanH,hpt.defers,fun n hn=>hpt.tmps n (fun h=>hn ?_)⟩ (by omega) hf' hg';simp only [Al]
          rcases h with h | h
          · rw [h];simp
          · cases o.dst with
            | none=>exact h
            | some d=>exact zzn _ h
        cases hd:o.dst with
        | none =>
          rw [hd] at hk tail;refine tail s2 a hk ⟨⟨Nat.le_trans hs.n0le x0.size,hs.size,fun n tv hn=>?_,hm,hs.kept.ext x0⟩,x0,hcb,hch,rfl,fun _ _=>rfl⟩ (fun n tv hn=>gi n tv (by rw [← gT2];exact hn)) (fun n hn=>⟨fun q tv hq hg=>?_,(hfr n hn).1.1,(hfr n hn).1.2⟩)
          · rw [gT2] at hn
            rcases hs.T n tv hn with ⟨h1,h2⟩ | ⟨h1,h2⟩
            · exact .inl ⟨h1,x0.relAV (fun q hq hnw=>(hnew q hnw).t n tv hn h1 hq) h2⟩
            · exact .inr ⟨h1,h2⟩
          · rw [gT2] at hq;exact (hf n (by omega)).t q tv hq hg
        | some d =>
          rw [hd] at hk tail;have hdd:=hdst d hd;have gT3:∀ n,({ s2 with tm:=HX s2.tm d (some ⟨[],av⟩) }:St0 E N).getT n=if n=d∧d<Du then some ⟨[],av⟩ else s.getT n:=fun n=>by
            unfold State.getT;rw [← show s2.tm=s.tm from htm];exact EB _ _ _ _
          refine tail { s2 with tm:=HX s2.tm d (some ⟨[],av⟩) } (a.put (some d) v) hk ⟨AFY hs gi hdd.1 hdd.2 hnew htm x0 hm hrel,?_,hcb,hch,rfl,fun n hn=>FM (fun e=>hn (by rw [e]))⟩ (fun n tv hn g hg=>?_) (fun n hn=>⟨fun q tv hq hg=>?_,(hfr n hn).1.1,(hfr n hn).1.2⟩)
          · exact (x0.trans ((Sub.of_same (s:=s2) (s':={ s2 with tm:=HX s2.tm d (some ⟨[],av⟩) }) (fun _=>rfl) (fun _=>rfl)).ext P (fun _=>False) β' σ' w')).weaken (fun n h=>h.elim (fun h=>h) (fun h=>h.elim))
          · rw [gT3] at hn
            split at hn
            · cases hn;simp at hg
            · exact List.mem_append_right _ (gi n tv hn g hg)
          · rw [gT3] at hq
            split at hq
            · cases hq;exact (hfr n hn).2
            · rename_i hne;exact (hf n (by omega)).t q tv hq ((Gv (d:=d) (v:=v) (fun g hg2 e=>hdd.1 (by have:=gi q tv hq g hg2;rw [e] at this;exact this))).1 hg)
end
section
variable {E:Env} {N:Nat} {P:Program} {cfg:Cfg} {n0 n0':Nz} {nt:Nat} {β β':Nat→Option Nat} {σ σ':Nat→Option (Nat×Nat)} {s s':St0 E N} {a:Act} {w w':World}
theorem gY {O : Alg} : ∀ (d : Nat) (t : TM (TV O)) (n : Nat), TM.get d (HM t) n = match TM.get d t n with
    | some tv=>match tv.gs with
      | []=>some tv
      | _=>none
    | none=>none
  | 0,.e,n=>rfl
  | 0,.leaf tv,n=>by
    cases h:tv.gs<;>simp [HM,h,TM.get]
  | 0,.node l r,n=>rfl
  | d+1,.e,n=>rfl
  | d+1,.leaf tv,n=>by
    cases h:tv.gs<;>simp [HM,h,TM.get]
  | d+1,.node l r,n=>by
    simp only [HM,TM.get];cases h:Nat.beq (n % 2) 0 with
    | true=>exact gY d l (n / 2)
    | false=>exact gY d r (n / 2)
structure WF (s:St0 E N):Prop where
 fresh:∀ n,s.st≤n→Ma s n∧∀ k tv,s.getT k=some tv→n∉tv.v.names
 gs:∀ n tv,s.getT n=some tv→tv.gs=[]
theorem WF.gi (h:WF s):GI s []:=fun n tv hn g hg=>by rw [h.gs n tv hn] at hg;simp at hg
theorem WF.free (h:WF s) (a:Act):∀ n,s.st≤n→Fresh a s n:=fun n hn=>⟨fun k tv hk _=>(h.fresh n hn).2 k tv hk,(h.fresh n hn).1.1,(h.fresh n hn).1.2⟩
theorem y8 (s : St0 E N) (q n : Nat) : ({ s with tm := HM s.tm, st := q } : St0 E N).getT n = match s.getT n with
    | some tv=>match tv.gs with
      | []=>some tv
      | _=>none
    | none=>none:=by
  unfold State.getT DG;cases Nat.blt n Du with
  | true =>
    show TM.get Q5 (HM s.tm) n=_;rw [gY];cases TM.get Q5 s.tm n<;>rfl
  | false=>rfl
theorem MS {q n:Nat} {tv:TV (std E N)} (h:({ s with tm:=HM s.tm,st:=q }:St0 E N).getT n=some tv):s.getT n=some tv∧tv.gs=[]:=by
 rw [y8] at h;cases hs:s.getT n with
 | none=>rw [hs] at h;cases h
 | some u =>
  rw [hs] at h;simp only at h
  split at h
  ·rename_i hg;cases h;exact ⟨rfl,hg⟩
  ·cases h
theorem Sim.purged (hs:Sim P n0 nt β σ s a w) (q:Nat):Sim P n0 nt β σ { s with tm:=HM s.tm,st:=q } a w:=by
 have sub:Sub s ({ s with tm:=HM s.tm,st:=q }:St0 E N):=Sub.of_same (fun _=>rfl) (fun _=>rfl);refine ⟨hs.n0le,hs.size,fun n tv hn=>?_,sub.mem hs.M,hs.kept.ext (sub.ext P (fun _=>False) β σ w)⟩;obtain ⟨h1,h2⟩:=MS hn
 rcases hs.T n tv h1 with ⟨h3,h4⟩ | ⟨h3,h4⟩
 ·exact .inl ⟨h3,(sub.ext P (fun _=>False) β σ w).relAV (fun _ _ h=>h) h4⟩
 ·exact .inr ⟨h3,h4⟩
theorem cg:∀ {l:List Nat},qN l=true→l.Nodup
 | [],_=>List.nodup_nil
 | n::l,h=>by
  simp only [qN,zzk,Bool.not_eq_true'] at h;exact List.nodup_cons.2 ⟨fun hm=>(by have:=Cz.2 hm;rw [this] at h;cases h.1),cg h.2⟩
theorem XO:∀ {l:List Oper},Ml nt l=true→∀ d∈Al l,d<nt
 | [],_,d,hd=>by simp [Al] at hd
 | o::l,h,d,hd=>by
  simp only [Ml,zzk] at h;simp only [Al] at hd;cases ho:o.dst with
  | none=>rw [ho] at hd;exact XO h.2 d hd
  | some x =>
   rw [ho] at hd h
   rcases List.mem_cons.1 hd with rfl | hd
   ·exact Bm.1 h.1
   ·exact XO h.2 d hd
theorem AAs (inl : Inl E N) (hInl : vZ P inl) (hΓ : ∀ ci ∈ cfg.gam, Bx P E N ci ∧ Bx P E N { ci with own := false }) {ops : Array Oper} {rid : Nat} (hdn : Ml nt ops.toList = true) {Q : Exit → Act → World → Prop} {r : List PV}
    {k:St0 E N→Option (List PV)} (h:Ka (O:=std E N) P cfg inl ops.toList false s k=some r) (hs:Sim P n0 nt β σ s a w) (wf:WF s)
    (hQ:∀ (s':St0 E N) (β':Nat→Option Nat) (σ':Nat→Option (Nat×Nat)) (a':Act) (w':World),k s'=some r→Post P n0 nt s.st (fun n=>n∈Al ops.toList) β σ s a w β' σ' s' a' w'→WF s'→s.st≤s'.st→Q .normal a' w') :
    (Code.region rid ops false).wp P Q a w:=by
  unfold Ka at h
  split at h
  · cases h
  · rename_i hok;simp only [zzk] at hok;have hg:=tC hok.2.1;refine wp_region ?_;have hr:List.range ops.size=List.range' ([]:List Oper).length ops.toList.length:=by simp [List.range_eq_range']
    rw [hr];refine cX inl hInl hΓ (cg hok.1) (fun k o ho j want hgd=>by have:=hg k o ho j want hgd;omega) (XO hdn) ops.toList [] s.st s [] _ β σ a w rfl h hs wf.gi (wf.free a) (fun s' ms' id' β' σ' a' w' hk hp hle hf hgi=>?_);have wf':WF ({ s' with tm:=HM s'.tm,st:=id' }:St0 E N):=⟨fun n hn=>⟨⟨(hf n hn).b,(hf n hn).h⟩,fun k tv hk=>by
      obtain ⟨h1,h2⟩:=MS hk;exact (hf n hn).t k tv h1 (fun m b hm=>by rw [h2] at hm;simp at hm)⟩,fun n tv hn=>(MS hn).2⟩
    have sub:Sub s' ({ s' with tm:=HM s'.tm,st:=id' }:St0 E N):=Sub.of_same (fun _=>rfl) (fun _=>rfl);exact hQ _ β' σ' a' w' hk ⟨hp.sim.purged id',(hp.ext.trans (sub.ext P (fun _=>False) β' σ' w')).weaken (fun n h=>h.elim (fun h=>h) (fun h=>h.elim)),hp.cleanB,hp.cleanH,hp.defers,hp.tmps⟩ wf' hle
end
end Go.Px
end
