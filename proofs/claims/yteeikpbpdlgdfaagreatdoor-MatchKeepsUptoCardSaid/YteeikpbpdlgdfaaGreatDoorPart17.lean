/- Part 17. -/
import Derived.Test.YteeikpbpdlgdfaaGreatDoorPart09
import Derived.Test.YteeikpbpdlgdfaaGreatDoorPart16
import Derived.Test.YteeikpbpdlgdfaaGreatDoorProg
import Derived.KernelRfl
set_option linter.unusedVariables false
set_option linter.unusedSimpArgs false
namespace Go.Px
open Go.Proofs
theorem JS:B3 Tryz.prog 32 4 17:=by unfold B3;kernel_rfl
theorem X8:B3 Tryz.prog 32 0 0:=by unfold B3;kernel_rfl
theorem XT:B3 Tryz.prog 24 13 13:=by unfold B3;kernel_rfl
theorem YT:B3 Tryz.prog 43 3 3:=by unfold B3;kernel_rfl
theorem XQ:B3 Tryz.prog 43 10 14:=by unfold B3;kernel_rfl
theorem Ww:B3 Tryz.prog 43 15 19:=by unfold B3;kernel_rfl
theorem YJ:B3 Tryz.prog 46 0 0:=by unfold B3;kernel_rfl
theorem SL:AM Tryz.prog 43=some [3,3,3,3,3,3,3,3,3,3,3,3,3,3,38,3,39,39,4,39,4,3,3,3,40,3,3,41]:=by kernel_rfl
theorem aO:AM Tryz.prog 44=some [44]:=by kernel_rfl
theorem ty3:AM Tryz.prog 3=some [3]:=by kernel_rfl
theorem aR:AM Tryz.prog 46=some [3,3,3]:=by kernel_rfl
theorem TN {k:Nat} (h:k≤1000000):IntKind.i64.wrap ((k:Int)+1)=((k+1:Nat):Int):=by
 rw [IntKind.wrap_i64];omega
structure Mid (n1 b1 b3 b4 lenI lenP:Nat) (w0:World) (a:Act) (w:World):Prop where
 sz:a.tmps.size=102
 df:a.defers=[]
 h1:a.tmps.getD 1 undef=.pointer (some ⟨b1,0,none⟩)
 h3:a.tmps.getD 3 undef=.pointer (some ⟨b3,0,none⟩)
 h4:a.tmps.getD 4 undef=.pointer (some ⟨b4,0,none⟩)
 bump:Bump n1 w0 w
 copy:CopyAt w n1 b4 28 17 13 3 14 19 .u8 lenI lenP
section
variable {n1 b1 b3 b4 lenI lenP:Nat} {w0 w:World} {a:Act} {Q:Exit→Act→World→Prop}
theorem Mid.put (h:Mid n1 b1 b3 b4 lenI lenP w0 a w) {d:Nat} {v:Value} (h1:d≠1) (h3:d≠3) (h4:d≠4):Mid n1 b1 b3 b4 lenI lenP w0 (a.put (some d) v) w :=
 ⟨by rw [AA];exact h.sz,by rw [C9];exact h.df,by rw [Ba (Ne.symm h1)];exact h.h1,by rw [Ba (Ne.symm h3)];exact h.h3,by rw [Ba (Ne.symm h4)];exact h.h4,h.bump,h.copy⟩
theorem Mid.put2 (h:Mid n1 b1 b3 b4 lenI lenP w0 a w) {d e:Nat} {v u:Value} (hd:(d≠1∧d≠3∧d≠4)∧(e≠1∧e≠3∧e≠4)):Mid n1 b1 b3 b4 lenI lenP w0 ((a.put (some d) v).put (some e) u) w :=
  (h.put hd.1.1 hd.1.2.1 hd.1.2.2).put hd.2.1 hd.2.2.1 hd.2.2.2
theorem Mid.set (h:Mid n1 b1 b3 b4 lenI lenP w0 a w) {ad:Addr} {k:IntKind} {n:Int} (hb:n1≤ad.block) (hc:w.cell? ad=some (.int k n)) (m:Int):Mid n1 b1 b3 b4 lenI lenP w0 a (w.setCell ad (.int k m)) :=
 ⟨h.sz,h.df,h.h1,h.h3,h.h4,h.bump.trans ((Bump.refl n1 w).set hb hc m),h.copy.bump ((Bump.refl n1 w).set hb hc m)⟩
abbrev lM:List TypeId:=[9,3,3,3,3,3,3,3,4,3,3,3,3,22,25,3,4,26,3,3,28,3,3]
theorem UY:AM Tryz.prog 32=some lM:=by kernel_rfl
theorem ty4:AM Tryz.prog 4=some [4]:=by kernel_rfl
theorem n32:Tryz.prog.cellsOf 32=23:=by kernel_rfl
noncomputable abbrev nM (rs:List PV):List PV:=CV Tryz.prog 0 lM rs
theorem eU (rs:List PV):nM rs=nMx rs:=by kernel_rfl
theorem bE:AG Tryz.prog 26=.sl 43:=by kernel_rfl
theorem eA:AG Tryz.prog 22=.sl 46:=by kernel_rfl
theorem e7:AG Tryz.prog 38=.sl 44:=by kernel_rfl
theorem e8:AG Tryz.prog 39=.sl 3:=by kernel_rfl
theorem eo:AG Tryz.prog 44=.int .u8:=by kernel_rfl
theorem lk3:AG Tryz.prog 3=.int .i64:=by kernel_rfl
theorem Ub {rs:List PV} {k:Nat} {t e:TypeId} (hk:lM[k]?=some t) (hl:AG Tryz.prog t=.sl e):pvL (AE (nM rs) k)=pvL (AE rs k):=by
 rw [IJ hk,Nat.zero_add];simp [CL,hl,pvL]
theorem cw {w : World} {n1 b4 : Nat} {cs : List Value} {rs : List PV} (hd : Dat Tryz.prog w (fun b => n1 ≤ b.b ∧ b.c = true) 0 lM cs (nM rs)) (hh : w.heap[b4]? = some (.cells cs.toArray 32 (0, 0))) (hs : J5 rs = true) :
    ∃ lenI lenP,lenI≤1000000∧lenP≤1000000∧CopyAt w n1 b4 28 17 13 3 14 19 .u8 lenI lenP:=by
  unfold J5 at hs;rw [zzk,zzk] at hs;obtain ⟨⟨hs1,hs2⟩,hs3⟩:=hs;have hs1:=of_decide_eq_true hs1;have hs2:=of_decide_eq_true hs2;obtain ⟨v,c1,c2⟩:=hd.get (k:=17) (t:=26) rfl;obtain ⟨u,d1,d2⟩:=hd.get (k:=13) (t:=22) rfl;rw [Nat.zero_add] at c2 d2;obtain ⟨ad,len,cap,rfl,e1,e2⟩:=X4 (j0:=3) (j1:=14) (j2:=19) c2 (fun b hb=>hb) bE SL rfl lk3 rfl e7 aO eo rfl e8 ty3 lk3 (by rw [Ub (t:=26) rfl bE];exact hs3);obtain ⟨ad2,len2,cap2,rfl,e3,e4⟩:=Lb d2 (fun b hb=>hb) eA aR lk3;rw [Ub (t:=26) rfl bE] at e1;rw [Ub (t:=22) rfl eA] at e3;refine ⟨len,len2,by omega,by omega,⟨ad,cap,?_,e2⟩,⟨ad2,cap2,?_,e4⟩⟩
  · rw [A0 hh];simpa using c1
  · rw [A0 hh];simpa using d1
theorem US {P:Program} {w:World} {St:Blk→Prop} {T:TypeId} {v:Value} {rs:List PV} (hl:AG P T=.bool) (ho:match AN P T with | true=>∃ cs,v=.agg cs | false=>v.oneCell'=true) (hag:AN P T=false) (h:Dat P w St 0 [T] v.cells.toList (CV P 0 [T] rs)):v=.bool (pvB (AE rs 0)):=by
 rw [hag] at ho;have ho:v.oneCell'=true:=ho;rw [Al ho] at h;have h1:=h.1;have h2:=Wf h1 hl;rw [h2,IJ (k:=0) rfl];simp [CL,hl,pvB]
theorem Wb {P:Program} {w:World} {St:Blk→Prop} {T:TypeId} {lT:List TypeId} {v:Value} {rs:List PV} (ho:match AN P T with | true=>∃ cs,v=.agg cs | false=>v.oneCell'=true) (hag:AN P T=true) (h:Dat P w St 0 lT v.cells.toList rs):∃ cs:List Value,v=.agg cs.toArray∧Dat P w St 0 lT cs rs∧cs.length=lT.length:=by
 rw [hag] at ho;obtain ⟨cs,rfl⟩:=ho;exact ⟨cs.toList,by simp,h,h.len⟩
theorem k32:AG Tryz.prog 32≠.fn:=by
 intro h;have:AG Tryz.prog 32=.other:=by kernel_rfl
 rw [this] at h;cases h
theorem HH:AN Tryz.prog 32=true:=by kernel_rfl
theorem ag4:AN Tryz.prog 4=false:=by kernel_rfl
theorem lk4:AG Tryz.prog 4=.bool:=by kernel_rfl
theorem QO (rs:List PV):nM (nM rs)=nM rs:=Tj rfl
theorem WD {w:World} {U:Nat→Prop} {cs:List Value} {rs:List PV} (h:Dat Tryz.prog w (fun b=>U b.b) 0 lM cs rs):Args Tryz.prog w U [32] [.agg cs.toArray] (nM rs) :=
 ⟨lM,rs,[],UY,by simp,by simpa [Value.cells] using h,by rw [HH];exact ⟨_,rfl⟩,k32,rfl⟩
theorem cF {w:World} {U:Nat→Prop} {cs cs':List Value} {rs rs':List PV} (h:Dat Tryz.prog w (fun b=>U b.b) 0 lM cs rs) (h':Dat Tryz.prog w (fun b=>U b.b) 0 lM cs' rs'):Args Tryz.prog w U [32,32] [.agg cs.toArray,.agg cs'.toArray] (nM rs++nM rs') :=
 ⟨lM,rs,nM rs',UY,rfl,by simpa [Value.cells] using h,by rw [HH];exact ⟨_,rfl⟩,k32,WD h'⟩
variable {E:Env} {N:Nat}
abbrev KW (E:Env) (N:Nat) (w:World):Prop:=Kept (E:=E) (N:=N) Tryz.prog noB (fun _=>none) (AL []) w
theorem O6 (w:World) (b:Nat) (cells:Array Value) {c0:Array Value} {T:TypeId} {fr:Nat×Nat} (h:w.heap[b]?=some (.cells c0 T fr)):(w.setRow b cells).heap[b]?=some (.cells cells T fr):=by
 simp [World.setRow,Array.getElem?_modify,h]
theorem Vf (w:World) {b b':Nat} (cells:Array Value) (h:b'≠b):(w.setRow b cells).heap[b']?=w.heap[b']?:=by
 simp [World.setRow,Array.getElem?_modify,Ne.symm h]
theorem Rh (w:World) {b:Nat} (cells:Array Value):(w.setRow b cells).heap.size=w.heap.size:=by simp [World.setRow]
theorem Li {w0 w:World} {b:Nat} (cells:Array Value) (g:Grow w0 w) (h:w0.heap.size≤b):Grow w0 (w.setRow b cells) :=
 ⟨g.os,g.tape,g.output,by rw [Rh];exact g.size,fun b' hb'=>(Vf w cells (by omega)).trans (g.old b' hb')⟩
theorem dr:∃ ti z,Tryz.prog.info? 32=some ti∧ti.zero=some z∧z.cells.size=23:=by
 have h:(match Tryz.prog.info? 32 with | some ti=>(match ti.zero with | some z=>Nat.beq z.cells.size 23 | none=>false) | none=>false)=true:=by kernel_rfl
 split at h
 ·rename_i ti hi
  split at h
  ·rename_i z hz;exact ⟨ti,z,hi,hz,AD.1 h⟩
  ·cases h
 ·cases h
theorem bZ {R:Ending→World→Prop} {b:Bool} (hdf:a.defers=[]) (h2:a.tmps.getD 2 undef=.bool b) (hR:R (.returned (.bool b)) w):bodyPost Tryz.prog Tryz.f3 R .ret a w:=by
 refine ⟨hdf,.bool b,?_,hR⟩;have:Tryz.f3.results=#[.tmp 2]:=by kernel_rfl
 unfold results;rw [this];simp [Array.mapM_eq_mapM_toList]<;>first | exact h2 | (rw [← h2];simp)
set_option maxHeartbeats 4000000 in
set_option maxRecDepth 10000 in
theorem Xt (v4 : Bc Tryz.prog E N ⟨4, [], false, true, [], []⟩) (v5 : Bc Tryz.prog E N ⟨5, [], false, false, [], []⟩) (v6 : Bc Tryz.prog E N ⟨6, [], false, true, [], []⟩) (v7 : Bc Tryz.prog E N ⟨7, [], false, true, [], []⟩)
    (v8:Bc Tryz.prog E N ⟨8,[],false,true,[],[]⟩) (v9:Bc Tryz.prog E N ⟨9,[],false,true,[],[]⟩) {cs:List Value} {ls rs:List PV} {w0:World} (hd:Dat Tryz.prog w0 (fun _=>True) 0 lM cs ls) (hk:KW E N w0) (he:QR E ls=some rs) :
    Calls Tryz.prog 3 #[.agg cs.toArray] w0 fun e w'=>∃ b,rs=[.bool b]∧e=.returned (.bool b)∧Grow w0 w':=by
  have hlen:cs.length=23:=hd.len;generalize hR:(fun (e:Ending) (w':World)=>∃ b,rs=[PV.bool b]∧e=.returned (.bool b)∧Grow w0 w')=R;have mkR:∀ {b:Bool} {w':World},rs=[PV.bool b]→Grow w0 w'→R (.returned (.bool b)) w':=fun {b w'} h1 h2=>by rw [← hR];exact ⟨b,h1,rfl,h2⟩
  clear hR;unfold QR at he;simp only [← eU] at he;obtain ⟨r4,he4,he⟩:=Option.bind_eq_some_iff.1 he;refine calls_of_wp Tryz.func3 rfl ?_;simp only [Tryz.ntmps3];generalize hA:({ tmps:=#[Value.agg cs.toArray]++Array.replicate (102 - (#[Value.agg cs.toArray]:Array Value).size) undef,defers:=[] }:Act)=a0;have s0:a0.tmps.size=102:=by rw [← hA];simp
  have f0:a0.defers=[]:=by rw [← hA]
  have t0:a0.tmps.getD 0 undef=.agg cs.toArray:=by rw [← hA];simp [Array.getD_eq_getD_getElem?]
  clear hA;refine wp_seq (wp_region ?_);refine AK rfl rfl rfl (eR t0) ?_;refine AK rfl rfl rfl (Cm (v:=.bool false) rfl) ?_;refine Ax ?_;show Code.wp Tryz.prog _ _ _ _;generalize hb1:w0.heap.size=b1;have hw1:(w0.alloc (.cells (Value.agg cs.toArray).cells 32)).heap[b1]?=some (.cells cs.toArray 32 (0,0)):=by rw [← hb1];exact CX w0 _
  have g1:=Grow.alloc w0 (.cells (Value.agg cs.toArray).cells 32);generalize w0.alloc (.cells (Value.agg cs.toArray).cells 32)=w1 at hw1 g1;have hd1:Dat Tryz.prog w1 (fun b=>b.b<b1) 0 lM cs ls:=hd.mono (fun b _ hlt=>⟨g1.old _ hlt,Nat.lt_of_lt_of_le hlt g1.size⟩) (fun b _ hlt=>by omega);generalize hA:(a0.put (some 1) (Value.pointer (some ⟨b1,0,none⟩))).put (some 2) (Value.bool false)=a1;have s1:a1.tmps.size=102:=by rw [← hA];simp only [AA,s0]
  have f1:a1.defers=[]:=by rw [← hA];simp only [C9,f0]
  have t1:a1.tmps.getD 1 undef=.pointer (some ⟨b1,0,none⟩):=by rw [← hA];simp only [AB,AA,s0];rfl
  have z1:a1.tmps.getD 2 undef=.bool false:=by rw [← hA];simp only [AB,AA,s0];rfl
  clear hA t0 s0 f0;have hk1:KW E N w1:=F5 hk g1;refine wp_seq (wp_seq (wp_region ?_));refine HY rfl rfl rfl (Mt Tryz.func4 (by kernel_rfl) (by kernel_rfl)) ?_;rw [show (#[]:Array Operand).map a1.eval=([]:List Value).toArray by simp];refine (Fq (args:=[]) (U:=fun _=>True) v4 Tryz.func4 rfl ty4 he4 rfl hk1).mono ?_
  rintro e w2 ⟨v,rfl,g2,o2,d2⟩
  obtain rfl:=US lk4 o2 ag4 d2;refine ⟨_,rfl,?_⟩;refine AK rfl rfl rfl (cB (b:=pvB (AE r4 0)) (by simp only [AH,AB,AA,s1];rfl)) ?_;refine Ax ?_;show Code.wp Tryz.prog _ _ _ _;cases hb4:pvB (AE r4 0) with
  | false =>
    rw [hb4] at he;cases he;refine wp_cond_true (by simp only [AH,AB,AA,s1,hb4];rfl) ?_;refine wp_seq (wp_region ?_);refine AK rfl rfl rfl (Cm (v:=.bool false) rfl) ?_;refine Ax ?_;show Code.wp Tryz.prog _ _ _ _;refine wp_ret ?_;show bodyPost Tryz.prog Tryz.f3 R .ret _ _;refine bZ (b:=false) ?_ ?_ ?_
    · simp only [C9,f1]
    · simp only [AB,AA,s1];rfl
    · exact mkR rfl (g1.trans g2)
  | true =>
  rw [hb4] at he;obtain ⟨r5,he5,he⟩:=Option.bind_eq_some_iff.1 he;obtain ⟨r6,he6,he⟩:=Option.bind_eq_some_iff.1 he;obtain ⟨r7,he7,he⟩:=Option.bind_eq_some_iff.1 he;obtain ⟨_,hsm,he⟩:=Option.bind_eq_some_iff.1 he;obtain ⟨r8,he8,he⟩:=Option.bind_eq_some_iff.1 he;refine wp_cond_false (by simp only [AH,AB,AA,s1,hb4];rfl) ?_;refine wp_skip ?_;show Code.wp Tryz.prog _ _ _ _;generalize hA:(a1.put (some 9) (Value.bool true)).put (some 10) (Value.bool !true)=a2;have s2:a2.tmps.size=102:=by rw [← hA];simp only [AA,s1]
  have f2:a2.defers=[]:=by rw [← hA];simp only [C9,f1]
  have t2:a2.tmps.getD 1 undef=.pointer (some ⟨b1,0,none⟩):=by rw [← hA];simp only [AB,AA,s1,t1];rfl
  clear hA;have hw2:w2.heap[b1]?=some (.cells cs.toArray 32 (0,0)):=(g2.old _ (Aj hw1)).trans hw1;have hd2:Dat Tryz.prog w2 (fun b=>b.b<b1) 0 lM cs ls:=hd1.mono (fun b _ hlt=>⟨g2.old _ hlt,Nat.lt_of_lt_of_le hlt g2.size⟩) (fun b hb _=>hb);have hk2:KW E N w2:=F5 hk1 g2;have hlt2:b1<w2.heap.size:=Aj hw2;refine wp_seq (wp_region ?_);refine AK rfl rfl rfl (HO (vs:=cs) Tryz.underlying32 HH t2 (by rw [hlen,n32]) (fun j v hj=>by rw [Nat.zero_add,A0 hw2];simpa using hj)) ?_;refine HY rfl rfl rfl (Mt Tryz.func5 (by kernel_rfl) (by kernel_rfl)) ?_;rw [show (#[Operand.tmp 11]:Array Operand).map (a2.put (some 11) (.agg cs.toArray)).eval=([.agg cs.toArray]:List Value).toArray by
    have:(a2.put (some 11) (.agg cs.toArray)).eval (.tmp 11)=.agg cs.toArray:=by simp only [AH,AB,s2];rfl
    simp [this]]
  refine (Fq (U:=fun b=>b<b1) v5 Tryz.func5 rfl UY he5 (WD hd2) hk2).mono ?_
  rintro e w3 ⟨v,rfl,g3,o3,d3⟩
  obtain ⟨cs5,rfl,d3,hl5⟩:=Wb o3 HH d3;refine ⟨_,rfl,?_⟩;have hw3:w3.heap[b1]?=some (.cells cs.toArray 32 (0,0)):=(g3.old _ hlt2).trans hw2;refine FZ rfl rfl rfl (UM (us:=cs5) (v:=.agg cs5.toArray) (by simp only [AH,AB,AA,s2,t2];rfl) (by simp only [AH,AB,AA,s2];rfl) (by simp [Value.cells]) (by rw [hl5,n32];rfl) (by rw [hl5];decide) hw3 (by rw [hl5];simp [hlen]) d3.one) ?_;rw [Ps (by rw [hl5];simp [hlen])];refine Ax ?_;show Code.wp Tryz.prog _ _ _ _;generalize hA:(a2.put (some 11) (.agg cs.toArray)).put (some 12) (.agg cs5.toArray)=a3;have s3:a3.tmps.size=102:=by rw [← hA];simp only [AA,s2]
  have f3:a3.defers=[]:=by rw [← hA];simp only [C9,f2]
  have t3:a3.tmps.getD 1 undef=.pointer (some ⟨b1,0,none⟩):=by rw [← hA];simp only [AB,AA,s2,t2];rfl
  clear hA;have g03:Grow w0 w3:=(g1.trans g2).trans g3;have hd4:Dat Tryz.prog (w3.setRow b1 cs5.toArray) (fun b=>b.b≠b1) 0 lM cs5 (nM r5):=d3.mono (fun b hb hlt=>⟨Vf _ _ (by rcases hb.2.2 with h | h<;>omega),by rw [Rh];exact hlt⟩) (fun b hb _=>by rcases hb.2.2 with h | h<;>omega);have hw4:=O6 w3 b1 cs5.toArray hw3;have g04:=Li cs5.toArray g03 (Nat.le_of_eq hb1);generalize w3.setRow b1 cs5.toArray=w4 at hd4 hw4 g04;have hk4:KW E N w4:=F5 hk g04;have hlt4:b1<w4.heap.size:=Aj hw4;refine wp_seq (wp_region ?_);refine AK rfl rfl rfl (HO (vs:=cs5) Tryz.underlying32 HH t3 (by rw [hl5,n32];rfl) (fun j v hj=>by rw [Nat.zero_add,A0 hw4];simpa using hj)) ?_;refine HY rfl rfl rfl (Mt Tryz.func6 (by kernel_rfl) (by kernel_rfl)) ?_;rw [show (#[Operand.tmp 13]:Array Operand).map (a3.put (some 13) (.agg cs5.toArray)).eval=([.agg cs5.toArray]:List Value).toArray by
    have:(a3.put (some 13) (.agg cs5.toArray)).eval (.tmp 13)=.agg cs5.toArray:=by simp only [AH,AB,s3];rfl
    simp [this]]
  have ha4:Args Tryz.prog w4 (fun b=>b≠b1) [32] [.agg cs5.toArray] (nM r5):=by have:=WD (U:=fun b=>b≠b1) hd4;rwa [QO] at this
  refine (Fq v6 Tryz.func6 rfl UY he6 ha4 hk4).mono ?_
  rintro e w5 ⟨v,rfl,g5,o5,d5⟩
  obtain ⟨cs6,rfl,d5,hl6⟩:=Wb o5 HH d5;refine ⟨_,rfl,?_⟩;obtain ⟨ti32,z32,hi32,hz32,hzl⟩:∃ ti z,Tryz.prog.info? 32=some ti∧ti.zero=some z∧z.cells.size=23:=dr;refine AK rfl rfl rfl (YC hi32 hz32) ?_;generalize hb3:w5.heap.size=b3;have hx5:(w5.alloc (.cells z32.cells 32)).heap[b3]?=some (.cells z32.cells 32 (0,0)):=by rw [← hb3];exact CX w5 _
  refine FZ rfl rfl rfl (UM (us:=cs6) (v:=.agg cs6.toArray) (by simp only [AH,AB,AA,s3];rfl) (by simp only [AH,AB,AA,s3];rfl) (by simp [Value.cells]) (by rw [hl6,n32];rfl) (by rw [hl6];decide) hx5 (by rw [hl6,hzl];decide) d5.one) ?_;rw [Ps (by rw [hl6,hzl];rfl)];refine Ax ?_;show Code.wp Tryz.prog _ _ _ _;generalize hA:((a3.put (some 13) (.agg cs5.toArray)).put (some 14) (.agg cs6.toArray)).put (some 3) (.pointer (some ⟨b3,0,none⟩))=a4;have s4:a4.tmps.size=102:=by rw [← hA];simp only [AA,s3]
  have f4:a4.defers=[]:=by rw [← hA];simp only [C9,f3]
  have t4:a4.tmps.getD 1 undef=.pointer (some ⟨b1,0,none⟩):=by rw [← hA];simp only [AB,AA,s3,t3];rfl
  have t43:a4.tmps.getD 3 undef=.pointer (some ⟨b3,0,none⟩):=by rw [← hA];simp only [AB,AA,s3];rfl
  clear hA;have g57:=Li cs6.toArray (Grow.alloc w5 (.cells z32.cells 32)) (Nat.le_of_eq hb3);have hw73:=O6 _ b3 cs6.toArray hx5;generalize (w5.alloc (.cells z32.cells 32)).setRow b3 cs6.toArray=w7 at g57 hw73;have g47:=g5.trans g57;have g07:=g04.trans g47;have hw71:w7.heap[b1]?=some (.cells cs5.toArray 32 (0,0)):=(g47.old _ hlt4).trans hw4;have hd7:Dat Tryz.prog w7 (fun _=>True) 0 lM cs5 (nM r5):=hd4.grow g47;have hd76:Dat Tryz.prog w7 (fun _=>True) 0 lM cs6 (nM r6):=d5.grow g57;have hk7:KW E N w7:=F5 hk g07;have hlt71:b1<w7.heap.size:=Aj hw71;have hlt73:b3<w7.heap.size:=Aj hw73;refine wp_seq (wp_region ?_);refine AK rfl rfl rfl (HO (vs:=cs5) Tryz.underlying32 HH t4 (by rw [hl5,n32];rfl) (fun j v hj=>by rw [Nat.zero_add,A0 hw71];simpa using hj)) ?_;refine HY rfl rfl rfl (Mt Tryz.func7 (by kernel_rfl) (by kernel_rfl)) ?_;rw [show (#[Operand.tmp 15]:Array Operand).map (a4.put (some 15) (.agg cs5.toArray)).eval=([.agg cs5.toArray]:List Value).toArray by
    have:(a4.put (some 15) (.agg cs5.toArray)).eval (.tmp 15)=.agg cs5.toArray:=by simp only [AH,AB,s4];rfl
    simp [this]]
  have ha7:Args Tryz.prog w7 (fun _=>True) [32] [.agg cs5.toArray] (nM r5):=by have:=WD (U:=fun _=>True) hd7;rwa [QO] at this
  refine (Fq v7 Tryz.func7 rfl UY he7 ha7 hk7).mono ?_
  rintro e w8 ⟨v,rfl,g8,o8,d8⟩
  obtain ⟨cs7,rfl,d8,hl7⟩:=Wb o8 HH d8;refine ⟨_,rfl,?_⟩;refine AK rfl rfl rfl (YC hi32 hz32) ?_;generalize hb4':w8.heap.size=b4;have hx8:(w8.alloc (.cells z32.cells 32)).heap[b4]?=some (.cells z32.cells 32 (0,0)):=by rw [← hb4'];exact CX w8 _
  refine FZ rfl rfl rfl (UM (us:=cs7) (v:=.agg cs7.toArray) (by simp only [AH,AB,AA,s4];rfl) (by simp only [AH,AB,AA,s4];rfl) (by simp [Value.cells]) (by rw [hl7,n32];rfl) (by rw [hl7];decide) hx8 (by rw [hl7,hzl];decide) d8.one) ?_;rw [Ps (by rw [hl7,hzl];rfl)];refine Ax ?_;show Code.wp Tryz.prog _ _ _ _;generalize hA:((a4.put (some 15) (.agg cs5.toArray)).put (some 16) (.agg cs7.toArray)).put (some 4) (.pointer (some ⟨b4,0,none⟩))=a5;have s5:a5.tmps.size=102:=by rw [← hA];simp only [AA,s4]
  have f5:a5.defers=[]:=by rw [← hA];simp only [C9,f4]
  have t5:a5.tmps.getD 1 undef=.pointer (some ⟨b1,0,none⟩):=by rw [← hA];simp only [AB,AA,s4,t4];rfl
  have t53:a5.tmps.getD 3 undef=.pointer (some ⟨b3,0,none⟩):=by rw [← hA];simp only [AB,AA,s4,t43];rfl
  have t54:a5.tmps.getD 4 undef=.pointer (some ⟨b4,0,none⟩):=by rw [← hA];simp only [AB,AA,s4];rfl
  clear hA;have g8x:=Li cs7.toArray (Grow.alloc w8 (.cells z32.cells 32)) (Nat.le_of_eq hb4');have hw84:=O6 _ b4 cs7.toArray hx8;generalize (w8.alloc (.cells z32.cells 32)).setRow b4 cs7.toArray=w9 at g8x hw84;have g79:=g8.trans g8x;have g09:=g07.trans g79;have hw91:w9.heap[b1]?=some (.cells cs5.toArray 32 (0,0)):=(g79.old _ hlt71).trans hw71;have hd95:Dat Tryz.prog w9 (fun _=>True) 0 lM cs5 (nM r5):=hd7.grow g79;have hd97:Dat Tryz.prog w9 (fun b=>w7.heap.size≤b.b∧b.c=true) 0 lM cs7 (nM r7):=d8.mono (fun b _ hlt=>⟨g8x.old _ hlt,Nat.lt_of_lt_of_le hlt g8x.size⟩) (fun b hb _=>⟨hb.1 rfl,hb.2.1 (hb.1 rfl)⟩);have hk9:KW E N w9:=F5 hk g09;refine wp_seq (wp_seq (wp_region ?_));refine AK rfl rfl rfl (HO (vs:=cs7) Tryz.underlying32 HH t54 (by rw [hl7,n32];rfl) (fun j v hj=>by rw [Nat.zero_add,A0 hw84];simpa using hj)) ?_;refine AK rfl rfl rfl (HO (vs:=cs5) Tryz.underlying32 HH (b:=b1) (o:=0) (by simp only [AH,AB,AA,s5,t5];rfl) (by rw [hl5,n32];rfl) (fun j v hj=>by rw [Nat.zero_add,A0 hw91];simpa using hj)) ?_;refine HY rfl rfl rfl (Mt Tryz.func8 (by kernel_rfl) (by kernel_rfl)) ?_;rw [show (#[Operand.tmp 17,Operand.tmp 18]:Array Operand).map ((a5.put (some 17) (.agg cs7.toArray)).put (some 18) (.agg cs5.toArray)).eval=([.agg cs7.toArray,.agg cs5.toArray]:List Value).toArray by
    have e1:((a5.put (some 17) (.agg cs7.toArray)).put (some 18) (.agg cs5.toArray)).eval (.tmp 17)=.agg cs7.toArray:=by simp only [AH,AB,AA,s5];rfl
    have e2:((a5.put (some 17) (.agg cs7.toArray)).put (some 18) (.agg cs5.toArray)).eval (.tmp 18)=.agg cs5.toArray:=by simp only [AH,AB,AA,s5];rfl
    simp [e1,e2]]
  have ha9:Args Tryz.prog w9 (fun _=>True) [32,32] [.agg cs7.toArray,.agg cs5.toArray] (nM r7++nM r5):=by
    have:=cF (U:=fun _=>True) (hd97.mono (fun b _ hlt=>⟨rfl,hlt⟩) (fun _ _ _=>trivial)) hd95
    rwa [QO,QO] at this
  refine (Fq v8 Tryz.func8 rfl ty4 he8 ha9 hk9).mono ?_
  rintro e w10 ⟨v,rfl,g10,o10,d10⟩
  obtain rfl:=US lk4 o10 ag4 d10;refine ⟨_,rfl,?_⟩;refine AK rfl rfl rfl (cB (b:=pvB (AE r8 0)) (by simp only [AH,AB,AA,s5];rfl)) ?_;refine Ax ?_;show Code.wp Tryz.prog _ _ _ _;cases hb8:pvB (AE r8 0) with
  | false =>
    rw [hb8] at he;cases he;refine wp_cond_true (by simp only [AH,AB,AA,s5,hb8];rfl) ?_;refine wp_seq (wp_region ?_);refine AK rfl rfl rfl (Cm (v:=.bool false) rfl) ?_;refine Ax ?_;show Code.wp Tryz.prog _ _ _ _;refine wp_ret ?_;show bodyPost Tryz.prog Tryz.f3 R .ret _ _;refine bZ (b:=false) ?_ ?_ ?_
    · simp only [C9,f5]
    · simp only [AB,AA,s5];rfl
    · exact mkR rfl (g09.trans g10)
  | true =>
  rw [hb8] at he;obtain ⟨r9,he9,hrs⟩:=zzp.1 he;refine wp_cond_false (by simp only [AH,AB,AA,s5,hb8];rfl) ?_;refine wp_skip ?_;show Code.wp Tryz.prog _ _ _ _;have hsm7:J5 r7=true:=by
    cases hx:J5 r7 with
    | true=>rfl
    | false=>rw [hx] at hsm;cases hsm
  have hw104:w10.heap[b4]?=some (.cells cs7.toArray 32 (0,0)):=(g10.old _ (Aj hw84)).trans hw84;obtain ⟨lenI,lenP,hlI,hlP,hcopy⟩:=cw (hd97.mono (fun b _ hlt=>⟨g10.old _ hlt,Nat.lt_of_lt_of_le hlt g10.size⟩) (fun _ hb _=>hb)) hw104 hsm7;have hmid:Mid w7.heap.size b1 b3 b4 lenI lenP w10 a5 w10:=⟨s5,f5,t5,t53,t54,Bump.refl _ _,hcopy⟩;have hg710:Grow w7 w10:=g79.trans g10;refine wp_seq (wp_seq (wp_region ?_));obtain ⟨⟨adI,capI,hI,hrow⟩,_⟩:=hcopy;refine AK rfl rfl rfl (Bg JS (b:=b4) (o:=0) (by simp only [AH,AB,AA,s5,t54];rfl)) ?_;refine AK rfl rfl rfl (B2 (ad:=⟨b4,17,none⟩) Tryz.underlying26 (by kernel_rfl) (by simp only [AH,AB,AA,s5];rfl) hI) ?_;refine AK rfl rfl rfl (V7 Tryz.underlying26 (ad:=adI) (len:=lenI) (cap:=capI) (by simp only [AH,AB,AA,s5];rfl)) ?_;refine AK rfl rfl rfl (BD (v:=.int .i64 0) rfl) ?_;refine Ax ?_;show Code.wp Tryz.prog _ _ _ _;refine wp_block ?_;refine Dw (fun n a w=>Mid w7.heap.size b1 b3 b4 lenI lenP w10 a w∧a.tmps.getD 23 undef=.int .i64 lenI∧∃ i:Nat,a.tmps.getD 24 undef=.int .i64 i∧i≤lenI∧n=lenI - i) (fun n a w hJ=>?_) (n:=lenI) ⟨?_,?_,0,?_,Nat.zero_le _,rfl⟩
  case refine_2=>exact ((((hmid.put2 (by decide)).put2 (by decide)).put2 (by decide)).put2 (by decide))
  case refine_3=>simp only [AB,AA,s5];rfl
  case refine_4=>simp only [AB,AA,s5];rfl
  obtain ⟨hm,q23,i,q24,hil,rfl⟩:=hJ;have qs:=hm.sz;refine wp_seq (wp_region ?_);refine AK rfl rfl rfl (Yt q24 q23) ?_;refine Ax ?_;show Code.wp Tryz.prog _ _ _ _;refine wp_seq ?_
  by_cases hlt:i<lenI
  case neg =>
    refine wp_cond_false (by simp only [AH,AB,AA,qs];simp;omega) (wp_exit ?_);show Code.wp Tryz.prog _ _ _ _;generalize hB:a.put (some 25) _=c1;have hm1:Mid w7.heap.size b1 b3 b4 lenI lenP w10 c1 w:=by rw [← hB];exact hm.put (by decide) (by decide) (by decide)
    clear hB;have ps:=hm1.sz;have p4:=hm1.h4;obtain ⟨_,⟨adP,capP,hP,hintsP⟩⟩:=hm1.copy;refine wp_seq (wp_seq (wp_region ?_));refine AK rfl rfl rfl (Bg X8 (b:=b4) (o:=0) (by simp only [AH,AB,AA,ps,p4];done)) ?_;refine AK rfl rfl rfl (Bg XT (b:=b4) (o:=0) (by simp only [AH,AB,AA,ps];rfl)) ?_;refine AK rfl rfl rfl (B2 (ad:=⟨b4,13,none⟩) Tryz.underlying22 (by kernel_rfl) (by simp only [AH,AB,AA,ps];rfl) hP) ?_;refine AK rfl rfl rfl (V7 Tryz.underlying22 (ad:=adP) (len:=lenP) (cap:=capP) (by simp only [AH,AB,AA,ps];rfl)) ?_;refine AK rfl rfl rfl (BD (v:=.int .i64 0) rfl) ?_;refine Ax ?_;show Code.wp Tryz.prog _ _ _ _;refine wp_block ?_;refine Dw (fun n a w=>Mid w7.heap.size b1 b3 b4 lenI lenP w10 a w∧w.cell? ⟨b4,13,none⟩=some (.slice adP lenP capP)∧IntsAt w w7.heap.size 3 .i64 adP lenP∧a.tmps.getD 84 undef=.int .i64 lenP∧∃ k:Nat,a.tmps.getD 85 undef=.int .i64 k∧k≤lenP∧n=lenP - k) (fun n a w hJ=>?_) (n:=lenP) ⟨?_,hP,hintsP,?_,0,?_,Nat.zero_le _,rfl⟩
    case refine_2=>exact (((hm1.put2 (by decide)).put2 (by decide)).put (by decide) (by decide) (by decide))
    case refine_3=>simp only [AB,AA,ps];rfl
    case refine_4=>simp only [AB,AA,ps];rfl
    clear hm1 ps p4 hP hintsP hm qs q23 q24;obtain ⟨hm,hP,hints,q84,k,q85,hkl,rfl⟩:=hJ;have qs:=hm.sz;have q4:=hm.h4;refine wp_seq (wp_region ?_);refine AK rfl rfl rfl (Yt q85 q84) ?_;refine Ax ?_;show Code.wp Tryz.prog _ _ _ _;refine wp_seq ?_
    by_cases hlk:k<lenP
    case neg =>
      refine wp_cond_false (by simp only [AH,AB,AA,qs];simp;omega) (wp_exit ?_);show Code.wp Tryz.prog _ _ _ _;generalize hB:a.put (some 86) _=c4;have hm4:Mid w7.heap.size b1 b3 b4 lenI lenP w10 c4 w:=by rw [← hB];exact hm.put (by decide) (by decide) (by decide)
      clear hB;have ps:=hm4.sz;have p1:=hm4.h1;have p3:=hm4.h3;have pf:=hm4.df;have gE:Grow w7 w:=hm4.bump.grow hg710 (Nat.le_refl _);have hE1:=(gE.old _ hlt71).trans hw71;have hE3:=(gE.old _ hlt73).trans hw73;have hdE5:=hd7.grow gE;have hdE6:=hd76.grow gE;have hkE:KW E N w:=F5 hk7 gE;refine wp_seq (wp_region ?_);refine AK rfl rfl rfl (HO (vs:=cs5) Tryz.underlying32 HH p1 (by rw [hl5,n32];rfl) (fun j v hj=>by rw [Nat.zero_add,A0 hE1];simpa using hj)) ?_;refine AK rfl rfl rfl (HO (vs:=cs6) Tryz.underlying32 HH (b:=b3) (o:=0) (by simp only [AH,AB,AA,ps,p3];rfl) (by rw [hl6,n32];rfl) (fun j v hj=>by rw [Nat.zero_add,A0 hE3];simpa using hj)) ?_;refine HY rfl rfl rfl (Mt Tryz.func9 (by kernel_rfl) (by kernel_rfl)) ?_;rw [show (#[Operand.tmp 99,Operand.tmp 100]:Array Operand).map ((c4.put (some 99) (.agg cs5.toArray)).put (some 100) (.agg cs6.toArray)).eval=([.agg cs5.toArray,.agg cs6.toArray]:List Value).toArray by
        have e1:((c4.put (some 99) (.agg cs5.toArray)).put (some 100) (.agg cs6.toArray)).eval (.tmp 99)=.agg cs5.toArray:=by simp only [AH,AB,AA,ps];rfl
        have e2:((c4.put (some 99) (.agg cs5.toArray)).put (some 100) (.agg cs6.toArray)).eval (.tmp 100)=.agg cs6.toArray:=by simp only [AH,AB,AA,ps];rfl
        simp [e1,e2]]
      have haE:Args Tryz.prog w (fun _=>True) [32,32] [.agg cs5.toArray,.agg cs6.toArray] (nM r5++nM r6):=by
        have:=cF (U:=fun _=>True) hdE5 hdE6
        rwa [QO,QO] at this
      refine (Fq v9 Tryz.func9 rfl ty4 he9 haE hkE).mono ?_
      rintro e wE ⟨v,rfl,gF,oF,dF⟩
      obtain rfl:=US lk4 oF ag4 dF;refine ⟨_,rfl,?_⟩;refine AK rfl rfl rfl (Cm (v:=.bool (pvB (AE r9 0))) (by simp only [AH,AB,AA,ps];rfl)) ?_;refine Ax ?_;show Code.wp Tryz.prog _ _ _ _;refine wp_ret ?_;show bodyPost Tryz.prog Tryz.f3 R .ret _ _;refine bZ (b:=pvB (AE r9 0)) ?_ ?_ ?_
      · simp only [C9,pf]
      · simp only [AB,AA,ps];rfl
      · exact mkR hrs.symm ((g07.trans gE).trans gF)
    refine wp_cond_true (by simp only [AH,AB,AA,qs];simp;omega) (wp_skip ?_);show Code.wp Tryz.prog _ _ _ _;obtain ⟨bL,oL,n1,rfl,hnew,hcell,hfree⟩:=hints k hlk;have em3:oL+(k:Int).toNat * 3=oL+k * 3:=by rw [Int.toNat_natCast]
    have hk0:(0:Int)≤k:=Int.natCast_nonneg k;have hk1':(k:Int)<(lenP:Int):=by omega
    refine wp_seq (wp_block (wp_seq (wp_region ?_)));refine AK rfl rfl rfl (BD (v:=.int .i64 k) (by simp only [AH,AB,AA,qs,q85];rfl)) ?_;refine AK rfl rfl rfl (Cm (v:=.int .i64 k) (by simp only [AH,AB,AA,qs];rfl)) ?_;refine Ax ?_;show Code.wp Tryz.prog _ _ _ _;refine wp_region ?_;refine AK rfl rfl rfl (Bg X8 (b:=b4) (o:=0) (by simp only [AH,AB,AA,qs,q4];rfl)) ?_;refine AK rfl rfl rfl (Bg XT (b:=b4) (o:=0) (by simp only [AH,AB,AA,qs];rfl)) ?_;refine AK rfl rfl rfl (B2 (ad:=⟨b4,13,none⟩) Tryz.underlying22 (by kernel_rfl) (by simp only [AH,AB,AA,qs];rfl) hP) ?_;refine AK rfl rfl rfl (BD (v:=.int .i64 k) (by simp only [AH,AB,AA,qs];rfl)) ?_;refine AK rfl rfl rfl (C2 (b:=bL) (o:=oL) (len:=lenP) (cap:=capP) (n:=k) Tryz.underlying22 aR (by simp only [AH,AB,AA,qs];rfl) (by simp only [AH,AB,AA,qs];rfl) hk0 hk1') ?_;refine AK rfl rfl rfl (Bg YJ (b:=bL) (o:=oL+(k:Int).toNat * 3) (by simp only [AH,AB,AA,qs];rfl)) ?_;refine AK rfl rfl rfl (B2 (ad:=⟨bL,oL+k * 3,none⟩) Tryz.underlying3 (by kernel_rfl) (by simp only [AH,AB,AA,qs];rfl) hcell) ?_;refine AK rfl rfl rfl (Kr (k:=.i64) (n:=n1) (m:=1) (by simp only [AH,AB,AA,qs];rfl) rfl) ?_;refine AK rfl rfl rfl (C2 (b:=bL) (o:=oL) (len:=lenP) (cap:=capP) (n:=k) Tryz.underlying22 aR (by simp only [AH,AB,AA,qs];rfl) (by simp only [AH,AB,AA,qs];rfl) hk0 hk1') ?_;refine AK rfl rfl rfl (Bg YJ (b:=bL) (o:=oL+(k:Int).toNat * 3) (by simp only [AH,AB,AA,qs];rfl)) ?_;refine FZ rfl rfl rfl (NC (ad:=⟨bL,oL+k * 3,none⟩) (v:=.int .i64 (IntKind.i64.wrap (n1+1))) (by simp only [AH,AB,AA,qs];rfl) (by simp only [AH,AB,AA,qs];rfl) rfl (by kernel_rfl) hcell hfree) ?_;refine Ax ?_;show Code.wp Tryz.prog _ _ _ _;have hmS:=hm.set (ad:=⟨bL,oL+k * 3,none⟩) hnew hcell (IntKind.i64.wrap (n1+1));have hbS:=(Bump.refl w7.heap.size w).set (ad:=⟨bL,oL+k * 3,none⟩) hnew hcell (IntKind.i64.wrap (n1+1));have hP':=hbS.slice hP;have hin':=hints.bump hbS;generalize w.setCell ⟨bL,oL+k * 3,none⟩ (.int .i64 (IntKind.i64.wrap (n1+1)))=w12 at hmS hP' hin';generalize hB:((((((((((((a.put (some 86) _).put (some 87) _).put (some 8) _).put (some 88) _).put (some 89) _).put (some 90) _).put (some 91) _).put (some 92) _).put (some 93) _).put (some 94) _).put (some 95) _).put (some 96) _).put (some 97) _=c3;have hmT:Mid w7.heap.size b1 b3 b4 lenI lenP w10 c3 w12:=by rw [← hB];exact (((((((hmS.put2 (by decide)).put2 (by decide)).put2 (by decide)).put2 (by decide)).put2 (by decide)).put2 (by decide)).put (by decide) (by decide) (by decide))
    have m84:c3.tmps.getD 84 undef=.int .i64 lenP:=by rw [← hB];simp only [AB,AA,qs,q84];rfl
    have m85:c3.tmps.getD 85 undef=.int .i64 k:=by rw [← hB];simp only [AB,AA,qs,q85];rfl
    clear hB;have qs:=hmT.sz;refine wp_region ?_;refine AK rfl rfl rfl (Kr (k:=.i64) (n:=k) (m:=1) m85 rfl) ?_;refine AK rfl rfl rfl (BD (v:=.int .i64 (IntKind.i64.wrap ((k:Int)+1))) (by simp only [AH,AB,AA,qs];rfl)) ?_;refine Ax ?_;show ∃ m,m<lenP - k∧_;rw [TN (by omega)];refine ⟨lenP - (k+1),by omega,hmT.put2 (by decide),hP',hin',?_,k+1,?_,by omega,rfl⟩
    · simp only [AB,AA,qs,m84];rfl
    · simp only [AB,AA,qs];rfl
  refine wp_cond_true (by simp only [AH,AB,AA,qs];simp;omega) (wp_skip ?_);show Code.wp Tryz.prog _ _ _ _;refine wp_seq (wp_block ?_);refine wp_seq (wp_region ?_);refine AK rfl rfl rfl (BD (v:=.int .i64 i) (by simp only [AH,AB,AA,qs,q24];rfl)) ?_;refine AK rfl rfl rfl (Cm (v:=.int .i64 i) (by simp only [AH,AB,AA,qs];rfl)) ?_;refine Ax ?_;show Code.wp Tryz.prog _ _ _ _;generalize hB:((a.put (some 25) (Value.bool (decide ((i:Int)<(lenI:Int))))).put (some 26) (Value.int .i64 i)).put (some 5) (Value.int .i64 i)=c1;have hm1:Mid w7.heap.size b1 b3 b4 lenI lenP w10 c1 w:=by rw [← hB];exact (hm.put (by decide) (by decide) (by decide)).put2 (by decide)
  have p23:c1.tmps.getD 23 undef=.int .i64 lenI:=by rw [← hB];simp only [AB,AA,qs,q23];rfl
  have p24:c1.tmps.getD 24 undef=.int .i64 i:=by rw [← hB];simp only [AB,AA,qs,q24];rfl
  have p5:c1.tmps.getD 5 undef=.int .i64 i:=by rw [← hB];simp only [AB,AA,qs];rfl
  clear hB;have ps:=hm1.sz;have p4:=hm1.h4;obtain ⟨⟨adI,capI,hI,hrow⟩,_⟩:=hm1.copy;obtain ⟨bI,oI,rfl,hr⟩:=hrow i hlt;obtain ⟨n0,hn0⟩:=hr.runs;have en0:oI+(i:Int).toNat * 28+3=oI+(i * 28+3):=by rw [Int.toNat_natCast,Nat.add_assoc]
  have hi0:(0:Int)≤i:=Int.natCast_nonneg i;have hi1:(i:Int)<(lenI:Int):=by omega
  refine wp_seq (wp_region ?_);refine AK rfl rfl rfl (Bg JS (b:=b4) (o:=0) (by simp only [AH,AB,AA,ps,p4];done)) ?_;refine AK rfl rfl rfl (B2 (ad:=⟨b4,17,none⟩) Tryz.underlying26 (by kernel_rfl) (by simp only [AH,AB,AA,ps];rfl) hI) ?_;refine AK rfl rfl rfl (BD (v:=.int .i64 i) (by simp only [AH,AB,AA,ps,p5];rfl)) ?_;refine AK rfl rfl rfl (C2 (b:=bI) (o:=oI) (len:=lenI) (cap:=capI) (n:=i) Tryz.underlying26 SL (by simp only [AH,AB,AA,ps];rfl) (by simp only [AH,AB,AA,ps];rfl) hi0 hi1) ?_;refine AK rfl rfl rfl (Bg YT (b:=bI) (o:=oI+(i:Int).toNat * 28) (by simp only [AH,AB,AA,ps];rfl)) ?_;refine AK rfl rfl rfl (B2 (ad:=⟨bI,oI+(i * 28+3),none⟩) Tryz.underlying3 (by kernel_rfl) (by simp only [AH,AB,AA,ps,en0];rfl) hn0) ?_;refine AK rfl rfl rfl (Kr (k:=.i64) (n:=n0) (m:=1) (by simp only [AH,AB,AA,ps];rfl) rfl) ?_;refine AK rfl rfl rfl (C2 (b:=bI) (o:=oI) (len:=lenI) (cap:=capI) (n:=i) Tryz.underlying26 SL (by simp only [AH,AB,AA,ps];rfl) (by simp only [AH,AB,AA,ps];rfl) hi0 hi1) ?_;refine AK rfl rfl rfl (Bg YT (b:=bI) (o:=oI+(i:Int).toNat * 28) (by simp only [AH,AB,AA,ps];rfl)) ?_;refine FZ rfl rfl rfl (NC (ad:=⟨bI,oI+(i * 28+3),none⟩) (v:=.int .i64 (IntKind.i64.wrap (n0+1))) (by simp only [AH,AB,AA,ps,en0];rfl) (by simp only [AH,AB,AA,ps];rfl) rfl (by kernel_rfl) hn0 hr.free) ?_;refine Ax ?_;show Code.wp Tryz.prog _ _ _ _;have hm2:=hm1.set (ad:=⟨bI,oI+(i * 28+3),none⟩) hr.new hn0 (IntKind.i64.wrap (n0+1));have hb2:=(Bump.refl w7.heap.size w).set (ad:=⟨bI,oI+(i * 28+3),none⟩) hr.new hn0 (IntKind.i64.wrap (n0+1));have hI:=hb2.slice hI;have hr:=hr.bump hb2;generalize w.setCell ⟨bI,oI+(i * 28+3),none⟩ (.int .i64 (IntKind.i64.wrap (n0+1)))=w11 at hm2 hI hr;clear hrow hn0 hb2;generalize hB:((((((((c1.put (some 27) _).put (some 28) _).put (some 29) _).put (some 30) _).put (some 31) _).put (some 32) _).put (some 33) _).put (some 34) _).put (some 35) _=c2;have hm3:Mid w7.heap.size b1 b3 b4 lenI lenP w10 c2 w11:=by rw [← hB];exact ((((hm2.put2 (by decide)).put2 (by decide)).put2 (by decide)).put2 (by decide)).put (by decide) (by decide) (by decide)
  have m23:c2.tmps.getD 23 undef=.int .i64 lenI:=by rw [← hB];simp only [AB,AA,ps,p23];rfl
  have m24:c2.tmps.getD 24 undef=.int .i64 i:=by rw [← hB];simp only [AB,AA,ps,p24];rfl
  have m5:c2.tmps.getD 5 undef=.int .i64 i:=by rw [← hB];simp only [AB,AA,ps,p5];rfl
  clear hB ps p4 p23 p24 p5 hm1 hm2;have ps:=hm3.sz;have p4:=hm3.h4;have em:∀ j,oI+(i:Int).toNat * 28+j=oI+(i * 28+j):=fun j=>by rw [Int.toNat_natCast,Nat.add_assoc]
  obtain ⟨ad1,len1,cap1,hc1,hl1,hints1⟩:=hr.one;refine wp_seq (wp_seq (wp_region ?_));refine AK rfl rfl rfl (Bg JS (b:=b4) (o:=0) (by simp only [AH,AB,AA,ps,p4];done)) ?_;refine AK rfl rfl rfl (B2 (ad:=⟨b4,17,none⟩) Tryz.underlying26 (by kernel_rfl) (by simp only [AH,AB,AA,ps];rfl) hI) ?_;refine AK rfl rfl rfl (BD (v:=.int .i64 i) (by simp only [AH,AB,AA,ps,m5];rfl)) ?_;refine AK rfl rfl rfl (C2 (b:=bI) (o:=oI) (len:=lenI) (cap:=capI) (n:=i) Tryz.underlying26 SL (by simp only [AH,AB,AA,ps];rfl) (by simp only [AH,AB,AA,ps];rfl) hi0 hi1) ?_;refine AK rfl rfl rfl (Bg XQ (b:=bI) (o:=oI+(i:Int).toNat * 28) (by simp only [AH,AB,AA,ps];rfl)) ?_;refine AK rfl rfl rfl (B2 (ad:=⟨bI,oI+(i * 28+14),none⟩) Tryz.underlying38 (by kernel_rfl) (by simp only [AH,AB,AA,ps,em];rfl) hc1) ?_;refine AK rfl rfl rfl (V7 Tryz.underlying38 (ad:=ad1) (len:=len1) (cap:=cap1) (by simp only [AH,AB,AA,ps];rfl)) ?_;refine AK rfl rfl rfl (BD (v:=.int .i64 0) rfl) ?_;refine Ax ?_;show Code.wp Tryz.prog _ _ _ _;refine wp_block ?_;refine Dw (fun n a w=>Mid w7.heap.size b1 b3 b4 lenI lenP w10 a w∧a.tmps.getD 23 undef=.int .i64 lenI∧a.tmps.getD 24 undef=.int .i64 i∧a.tmps.getD 5 undef=.int .i64 i∧w.cell? ⟨b4,17,none⟩=some (.slice (some ⟨bI,oI,none⟩) lenI capI)∧RowAt w w7.heap.size 28 3 14 19 .u8 bI oI i ∧
    w.cell? ⟨bI,oI+(i * 28+14),none⟩=some (.slice ad1 len1 cap1)∧IntsAt w w7.heap.size 1 .u8 ad1 len1∧a.tmps.getD 42 undef=.int .i64 len1∧∃ k:Nat,a.tmps.getD 43 undef=.int .i64 k∧k≤len1∧n=len1 - k) (fun n a w hJ=>?_) (n:=len1) ⟨?_,?_,?_,?_,hI,hr,hc1,hints1,?_,0,?_,Nat.zero_le _,rfl⟩
  case refine_2=>exact ((((hm3.put2 (by decide)).put2 (by decide)).put2 (by decide)).put2 (by decide))
  case refine_3=>simp only [AB,AA,ps,m23];rfl
  case refine_4=>simp only [AB,AA,ps,m24];rfl
  case refine_5=>simp only [AB,AA,ps,m5];rfl
  case refine_6=>simp only [AB,AA,ps];rfl
  case refine_7=>simp only [AB,AA,ps];rfl
  · obtain ⟨hm,q23,q24,q5,hI,hr,hc1,hints,q42,k,q43,hkl,rfl⟩:=hJ;have qs:=hm.sz;have q4:=hm.h4;refine wp_seq (wp_region ?_);refine AK rfl rfl rfl (Yt q43 q42) ?_;refine Ax ?_;show Code.wp Tryz.prog _ _ _ _;refine wp_seq ?_
    by_cases hlk:k<len1
    case neg =>
      refine wp_cond_false (by simp only [AH,AB,AA,qs];simp;omega) (wp_exit ?_);show Code.wp Tryz.prog _ _ _ _;generalize hB:a.put (some 44) _=d2;have hm3:Mid w7.heap.size b1 b3 b4 lenI lenP w10 d2 w:=by rw [← hB];exact hm.put (by decide) (by decide) (by decide)
      have m23:d2.tmps.getD 23 undef=.int .i64 lenI:=by rw [← hB];simp only [AB,AA,qs,q23];rfl
      have m24:d2.tmps.getD 24 undef=.int .i64 i:=by rw [← hB];simp only [AB,AA,qs,q24];rfl
      have m5:d2.tmps.getD 5 undef=.int .i64 i:=by rw [← hB];simp only [AB,AA,qs,q5];rfl
      clear hB qs q4 q23 q24 q5 hm hints hc1 q42 q43;have ps:=hm3.sz;have p4:=hm3.h4;obtain ⟨ad1,len1,cap1,hc1,hl1,hints1⟩:=hr.two;refine wp_seq (wp_region ?_);refine AK rfl rfl rfl (Bg JS (b:=b4) (o:=0) (by simp only [AH,AB,AA,ps,p4];done)) ?_;refine AK rfl rfl rfl (B2 (ad:=⟨b4,17,none⟩) Tryz.underlying26 (by kernel_rfl) (by simp only [AH,AB,AA,ps];rfl) hI) ?_;refine AK rfl rfl rfl (BD (v:=.int .i64 i) (by simp only [AH,AB,AA,ps,m5];rfl)) ?_;refine AK rfl rfl rfl (C2 (b:=bI) (o:=oI) (len:=lenI) (cap:=capI) (n:=i) Tryz.underlying26 SL (by simp only [AH,AB,AA,ps];rfl) (by simp only [AH,AB,AA,ps];rfl) hi0 hi1) ?_;refine AK rfl rfl rfl (Bg Ww (b:=bI) (o:=oI+(i:Int).toNat * 28) (by simp only [AH,AB,AA,ps];rfl)) ?_;refine AK rfl rfl rfl (B2 (ad:=⟨bI,oI+(i * 28+19),none⟩) Tryz.underlying39 (by kernel_rfl) (by simp only [AH,AB,AA,ps,em];rfl) hc1) ?_;refine AK rfl rfl rfl (V7 Tryz.underlying39 (ad:=ad1) (len:=len1) (cap:=cap1) (by simp only [AH,AB,AA,ps];rfl)) ?_;refine AK rfl rfl rfl (BD (v:=.int .i64 0) rfl) ?_;refine Ax ?_;show Code.wp Tryz.prog _ _ _ _;refine wp_block ?_;refine Dw (fun n a w=>Mid w7.heap.size b1 b3 b4 lenI lenP w10 a w∧a.tmps.getD 23 undef=.int .i64 lenI∧a.tmps.getD 24 undef=.int .i64 i∧a.tmps.getD 5 undef=.int .i64 i∧w.cell? ⟨b4,17,none⟩=some (.slice (some ⟨bI,oI,none⟩) lenI capI)∧RowAt w w7.heap.size 28 3 14 19 .u8 bI oI i ∧
        w.cell? ⟨bI,oI+(i * 28+19),none⟩=some (.slice ad1 len1 cap1)∧IntsAt w w7.heap.size 1 .i64 ad1 len1∧a.tmps.getD 64 undef=.int .i64 len1∧∃ k:Nat,a.tmps.getD 65 undef=.int .i64 k∧k≤len1∧n=len1 - k) (fun n a w hJ=>?_) (n:=len1) ⟨?_,?_,?_,?_,hI,hr,hc1,hints1,?_,0,?_,Nat.zero_le _,rfl⟩
      case refine_2=>exact ((((hm3.put2 (by decide)).put2 (by decide)).put2 (by decide)).put2 (by decide))
      case refine_3=>simp only [AB,AA,ps,m23];rfl
      case refine_4=>simp only [AB,AA,ps,m24];rfl
      case refine_5=>simp only [AB,AA,ps,m5];rfl
      case refine_6=>simp only [AB,AA,ps];rfl
      case refine_7=>simp only [AB,AA,ps];rfl
      · obtain ⟨hm,q23,q24,q5,hI,hr,hc1,hints,q42,k,q43,hkl,rfl⟩:=hJ;have qs:=hm.sz;have q4:=hm.h4;refine wp_seq (wp_region ?_);refine AK rfl rfl rfl (Yt q43 q42) ?_;refine Ax ?_;show Code.wp Tryz.prog _ _ _ _;refine wp_seq ?_
        by_cases hlk:k<len1
        case neg =>
          refine wp_cond_false (by simp only [AH,AB,AA,qs];simp;omega) (wp_exit ?_);show Code.wp Tryz.prog _ _ _ _;generalize hB:a.put (some 66) _=d4;have hm4:Mid w7.heap.size b1 b3 b4 lenI lenP w10 d4 w:=by rw [← hB];exact hm.put (by decide) (by decide) (by decide)
          have m23:d4.tmps.getD 23 undef=.int .i64 lenI:=by rw [← hB];simp only [AB,AA,qs,q23];rfl
          have m24:d4.tmps.getD 24 undef=.int .i64 i:=by rw [← hB];simp only [AB,AA,qs,q24];rfl
          clear hB;have ps:=hm4.sz;refine wp_region ?_;refine AK rfl rfl rfl (Kr (k:=.i64) (n:=i) (m:=1) m24 rfl) ?_;refine AK rfl rfl rfl (BD (v:=.int .i64 (IntKind.i64.wrap ((i:Int)+1))) (by simp only [AH,AB,AA,ps];rfl)) ?_;refine Ax ?_;show ∃ m,m<lenI - i∧_;rw [TN (by omega)];refine ⟨lenI - (i+1),by omega,hm4.put2 (by decide),?_,i+1,?_,by omega,rfl⟩
          · simp only [AB,AA,ps,m23];rfl
          · simp only [AB,AA,ps];rfl
        refine wp_cond_true (by simp only [AH,AB,AA,qs];simp;omega) (wp_skip ?_);show Code.wp Tryz.prog _ _ _ _;obtain ⟨bL,oL,n1,rfl,hnew,hcell,hfree⟩:=hints k hlk;have ek:oL+(k:Int).toNat * 1=oL+k * 1:=by rw [Int.toNat_natCast]
        have hk0:(0:Int)≤k:=Int.natCast_nonneg k;have hk1':(k:Int)<(len1:Int):=by omega
        refine wp_seq (wp_block (wp_seq (wp_region ?_)));refine AK rfl rfl rfl (BD (v:=.int .i64 k) (by simp only [AH,AB,AA,qs,q43];rfl)) ?_;refine AK rfl rfl rfl (Cm (v:=.int .i64 k) (by simp only [AH,AB,AA,qs];rfl)) ?_;refine Ax ?_;show Code.wp Tryz.prog _ _ _ _;refine wp_region ?_;refine AK rfl rfl rfl (Bg JS (b:=b4) (o:=0) (by simp only [AH,AB,AA,qs,q4];rfl)) ?_;refine AK rfl rfl rfl (B2 (ad:=⟨b4,17,none⟩) Tryz.underlying26 (by kernel_rfl) (by simp only [AH,AB,AA,qs];rfl) hI) ?_;refine AK rfl rfl rfl (BD (v:=.int .i64 i) (by simp only [AH,AB,AA,qs,q5];rfl)) ?_;refine AK rfl rfl rfl (C2 (b:=bI) (o:=oI) (len:=lenI) (cap:=capI) (n:=i) Tryz.underlying26 SL (by simp only [AH,AB,AA,qs];rfl) (by simp only [AH,AB,AA,qs];rfl) hi0 hi1) ?_;refine AK rfl rfl rfl (Bg Ww (b:=bI) (o:=oI+(i:Int).toNat * 28) (by simp only [AH,AB,AA,qs];rfl)) ?_;refine AK rfl rfl rfl (B2 (ad:=⟨bI,oI+(i * 28+19),none⟩) Tryz.underlying39 (by kernel_rfl) (by simp only [AH,AB,AA,qs,em];rfl) hc1) ?_;refine AK rfl rfl rfl (BD (v:=.int .i64 k) (by simp only [AH,AB,AA,qs];rfl)) ?_;refine AK rfl rfl rfl (C2 (b:=bL) (o:=oL) (len:=len1) (cap:=cap1) (n:=k) Tryz.underlying39 ty3 (by simp only [AH,AB,AA,qs];rfl) (by simp only [AH,AB,AA,qs];rfl) hk0 hk1') ?_;refine AK rfl rfl rfl (B2 (ad:=⟨bL,oL+k * 1,none⟩) Tryz.underlying3 (by kernel_rfl) (by simp only [AH,AB,AA,qs];rfl) hcell) ?_;refine AK rfl rfl rfl (Kr (k:=.i64) (n:=n1) (m:=1) (by simp only [AH,AB,AA,qs];rfl) rfl) ?_;refine AK rfl rfl rfl (C2 (b:=bL) (o:=oL) (len:=len1) (cap:=cap1) (n:=k) Tryz.underlying39 ty3 (by simp only [AH,AB,AA,qs];rfl) (by simp only [AH,AB,AA,qs];rfl) hk0 hk1') ?_;refine FZ rfl rfl rfl (NC (ad:=⟨bL,oL+k * 1,none⟩) (v:=.int .i64 (IntKind.i64.wrap (n1+1))) (by simp only [AH,AB,AA,qs];rfl) (by simp only [AH,AB,AA,qs];rfl) rfl (by kernel_rfl) hcell hfree) ?_;refine Ax ?_;show Code.wp Tryz.prog _ _ _ _;have hmS:=hm.set (ad:=⟨bL,oL+k * 1,none⟩) hnew hcell (IntKind.i64.wrap (n1+1));have hbS:=(Bump.refl w7.heap.size w).set (ad:=⟨bL,oL+k * 1,none⟩) hnew hcell (IntKind.i64.wrap (n1+1));have hI':=hbS.slice hI;have hr':=hr.bump hbS;have hc1':=hbS.slice hc1;have hin':=hints.bump hbS;generalize w.setCell ⟨bL,oL+k * 1,none⟩ (.int .i64 (IntKind.i64.wrap (n1+1)))=w13 at hmS hI' hr' hc1' hin';generalize hB:(((((((((((((a.put (some 66) _).put (some 67) _).put (some 7) _).put (some 68) _).put (some 69) _).put (some 70) _).put (some 71) _).put (some 72) _).put (some 73) _).put (some 74) _).put (some 75) _).put (some 76) _).put (some 77) _).put (some 78) _=d3;have hmT:Mid w7.heap.size b1 b3 b4 lenI lenP w10 d3 w13:=by rw [← hB];exact (((((((hmS.put2 (by decide)).put2 (by decide)).put2 (by decide)).put2 (by decide)).put2 (by decide)).put2 (by decide)).put2 (by decide))
        have m23:d3.tmps.getD 23 undef=.int .i64 lenI:=by rw [← hB];simp only [AB,AA,qs,q23];rfl
        have m24:d3.tmps.getD 24 undef=.int .i64 i:=by rw [← hB];simp only [AB,AA,qs,q24];rfl
        have m5:d3.tmps.getD 5 undef=.int .i64 i:=by rw [← hB];simp only [AB,AA,qs,q5];rfl
        have m64:d3.tmps.getD 64 undef=.int .i64 len1:=by rw [← hB];simp only [AB,AA,qs,q42];rfl
        have m65:d3.tmps.getD 65 undef=.int .i64 k:=by rw [← hB];simp only [AB,AA,qs,q43];rfl
        clear hB;have qs:=hmT.sz;refine wp_region ?_;refine AK rfl rfl rfl (Kr (k:=.i64) (n:=k) (m:=1) m65 rfl) ?_;refine AK rfl rfl rfl (BD (v:=.int .i64 (IntKind.i64.wrap ((k:Int)+1))) (by simp only [AH,AB,AA,qs];rfl)) ?_;refine Ax ?_;show ∃ m,m<len1 - k∧_;rw [TN (by omega)];refine ⟨len1 - (k+1),by omega,hmT.put2 (by decide),?_,?_,?_,hI',hr',hc1',hin',?_,k+1,?_,by omega,rfl⟩
        · simp only [AB,AA,qs,m23];rfl
        · simp only [AB,AA,qs,m24];rfl
        · simp only [AB,AA,qs,m5];rfl
        · simp only [AB,AA,qs,m64];rfl
        · simp only [AB,AA,qs];rfl
    refine wp_cond_true (by simp only [AH,AB,AA,qs];simp;omega) (wp_skip ?_);show Code.wp Tryz.prog _ _ _ _;obtain ⟨bL,oL,n1,rfl,hnew,hcell,hfree⟩:=hints k hlk;have ek:oL+(k:Int).toNat * 1=oL+k * 1:=by rw [Int.toNat_natCast]
    have hk0:(0:Int)≤k:=Int.natCast_nonneg k;have hk1':(k:Int)<(len1:Int):=by omega
    refine wp_seq (wp_block (wp_seq (wp_region ?_)));refine AK rfl rfl rfl (BD (v:=.int .i64 k) (by simp only [AH,AB,AA,qs,q43];rfl)) ?_;refine AK rfl rfl rfl (Cm (v:=.int .i64 k) (by simp only [AH,AB,AA,qs];rfl)) ?_;refine Ax ?_;show Code.wp Tryz.prog _ _ _ _;refine wp_region ?_;refine AK rfl rfl rfl (Bg JS (b:=b4) (o:=0) (by simp only [AH,AB,AA,qs,q4];rfl)) ?_;refine AK rfl rfl rfl (B2 (ad:=⟨b4,17,none⟩) Tryz.underlying26 (by kernel_rfl) (by simp only [AH,AB,AA,qs];rfl) hI) ?_;refine AK rfl rfl rfl (BD (v:=.int .i64 i) (by simp only [AH,AB,AA,qs,q5];rfl)) ?_;refine AK rfl rfl rfl (C2 (b:=bI) (o:=oI) (len:=lenI) (cap:=capI) (n:=i) Tryz.underlying26 SL (by simp only [AH,AB,AA,qs];rfl) (by simp only [AH,AB,AA,qs];rfl) hi0 hi1) ?_;refine AK rfl rfl rfl (Bg XQ (b:=bI) (o:=oI+(i:Int).toNat * 28) (by simp only [AH,AB,AA,qs];rfl)) ?_;refine AK rfl rfl rfl (B2 (ad:=⟨bI,oI+(i * 28+14),none⟩) Tryz.underlying38 (by kernel_rfl) (by simp only [AH,AB,AA,qs,em];rfl) hc1) ?_;refine AK rfl rfl rfl (BD (v:=.int .i64 k) (by simp only [AH,AB,AA,qs];rfl)) ?_;refine AK rfl rfl rfl (C2 (b:=bL) (o:=oL) (len:=len1) (cap:=cap1) (n:=k) Tryz.underlying38 aO (by simp only [AH,AB,AA,qs];rfl) (by simp only [AH,AB,AA,qs];rfl) hk0 hk1') ?_;refine AK rfl rfl rfl (B2 (ad:=⟨bL,oL+k * 1,none⟩) Tryz.underlying44 (by kernel_rfl) (by simp only [AH,AB,AA,qs];rfl) hcell) ?_;refine AK rfl rfl rfl (Kr (k:=.u8) (n:=n1) (m:=1) (by simp only [AH,AB,AA,qs];rfl) rfl) ?_;refine AK rfl rfl rfl (C2 (b:=bL) (o:=oL) (len:=len1) (cap:=cap1) (n:=k) Tryz.underlying38 aO (by simp only [AH,AB,AA,qs];rfl) (by simp only [AH,AB,AA,qs];rfl) hk0 hk1') ?_;refine FZ rfl rfl rfl (NC (ad:=⟨bL,oL+k * 1,none⟩) (v:=.int .u8 (IntKind.u8.wrap (n1+1))) (by simp only [AH,AB,AA,qs];rfl) (by simp only [AH,AB,AA,qs];rfl) rfl (by kernel_rfl) hcell hfree) ?_;refine Ax ?_;show Code.wp Tryz.prog _ _ _ _;have hmS:=hm.set (ad:=⟨bL,oL+k * 1,none⟩) hnew hcell (IntKind.u8.wrap (n1+1));have hbS:=(Bump.refl w7.heap.size w).set (ad:=⟨bL,oL+k * 1,none⟩) hnew hcell (IntKind.u8.wrap (n1+1));have hI':=hbS.slice hI;have hr':=hr.bump hbS;have hc1':=hbS.slice hc1;have hin':=hints.bump hbS;generalize w.setCell ⟨bL,oL+k * 1,none⟩ (.int .u8 (IntKind.u8.wrap (n1+1)))=w12 at hmS hI' hr' hc1' hin';generalize hB:(((((((((((((a.put (some 44) _).put (some 45) _).put (some 6) _).put (some 46) _).put (some 47) _).put (some 48) _).put (some 49) _).put (some 50) _).put (some 51) _).put (some 52) _).put (some 53) _).put (some 54) _).put (some 55) _).put (some 56) _=c3;have hmT:Mid w7.heap.size b1 b3 b4 lenI lenP w10 c3 w12:=by rw [← hB];exact (((((((hmS.put2 (by decide)).put2 (by decide)).put2 (by decide)).put2 (by decide)).put2 (by decide)).put2 (by decide)).put2 (by decide))
    have m23:c3.tmps.getD 23 undef=.int .i64 lenI:=by rw [← hB];simp only [AB,AA,qs,q23];rfl
    have m24:c3.tmps.getD 24 undef=.int .i64 i:=by rw [← hB];simp only [AB,AA,qs,q24];rfl
    have m5:c3.tmps.getD 5 undef=.int .i64 i:=by rw [← hB];simp only [AB,AA,qs,q5];rfl
    have m42:c3.tmps.getD 42 undef=.int .i64 len1:=by rw [← hB];simp only [AB,AA,qs,q42];rfl
    have m43:c3.tmps.getD 43 undef=.int .i64 k:=by rw [← hB];simp only [AB,AA,qs,q43];rfl
    clear hB;have qs:=hmT.sz;refine wp_region ?_;refine AK rfl rfl rfl (Kr (k:=.i64) (n:=k) (m:=1) m43 rfl) ?_;refine AK rfl rfl rfl (BD (v:=.int .i64 (IntKind.i64.wrap ((k:Int)+1))) (by simp only [AH,AB,AA,qs];rfl)) ?_;refine Ax ?_;show ∃ m,m<len1 - k∧_;rw [TN (by omega)];refine ⟨len1 - (k+1),by omega,hmT.put2 (by decide),?_,?_,?_,hI',hr',hc1',hin',?_,k+1,?_,by omega,rfl⟩
    · simp only [AB,AA,qs,m23];rfl
    · simp only [AB,AA,qs,m24];rfl
    · simp only [AB,AA,qs,m5];rfl
    · simp only [AB,AA,qs,m42];rfl
    · simp only [AB,AA,qs];rfl
end
theorem er:AG Tryz.prog 32=.other:=by kernel_rfl
theorem X1 {E : Env} {N : Nat} (v4 : Bc Tryz.prog E N ⟨4, [], false, true, [], []⟩) (v5 : Bc Tryz.prog E N ⟨5, [], false, false, [], []⟩) (v6 : Bc Tryz.prog E N ⟨6, [], false, true, [], []⟩) (v7 : Bc Tryz.prog E N ⟨7, [], false, true, [], []⟩)
    (v8:Bc Tryz.prog E N ⟨8,[],false,true,[],[]⟩) (v9:Bc Tryz.prog E N ⟨9,[],false,true,[],[]⟩) {E':Env} {N':Nat} (h:∀ ls,E' 3 [] ls=QR E ls):VV Tryz.prog E' N' ⟨3,[],true,true,[],[]⟩:=by
  have main : ∀ own', ∀ (ls rs : List PV), E' 3 [] ls = some rs → ∀ fn', Tryz.prog.funcs[3]? = some fn' → ∀ (vs : List (AV (std E' N'))) (hs : List (Nat × HEnt (std E' N'))), Ab (O := std E' N') Tryz.prog [] 1 fn'.params.toList [] (ls.map PV.leaf) = some (vs, hs) →
      ∀ (n0:Nz) (σ:Nat→Option (Nat×Nat)) (w:World) (args:List Value),n0.n=w.heap.size→Mem Tryz.prog n0 noB σ (AL hs) w→RelArgs Tryz.prog n0 noB σ (AL hs) w vs args→Kept Tryz.prog noB σ (AL hs) w→Calls Tryz.prog 3 args.toArray w (Ret (E:=E') (N:=N') Tryz.prog ⟨3,[],own',true,[],[]⟩ n0 σ (AL hs) w fn' rs) :=
    fun own' ls rs he fn' hfn' vs hs hv n0 σ w args hn0 m hra hkp=>by
      rw [Tryz.func3] at hfn';cases hfn';rw [h] at he;rw [show Tryz.f3.params.toList=[32] by kernel_rfl] at hv;unfold Ab at hv;simp only [er,UY] at hv;cases ha:AU (O:=std E' N') Tryz.prog (([]:List Bool).headD false) 1 lM (ls.map PV.leaf) with
      | none=>rw [ha] at hv;cases hv
      | some x =>
      obtain ⟨acs,h0,rest⟩:=x;rw [ha] at hv;cases rest with
      | cons _ _=>simp [Ab] at hv
      | nil =>
      simp [Ab,HH] at hv;obtain ⟨rfl,rfl⟩:=hv;obtain ⟨v1,rfl⟩:∃ v1,args=[v1]:=by
        have:=hra.len
        match args,this with
        | [v1],_=>exact ⟨v1,rfl⟩
      obtain ⟨⟨q1,q2⟩,_⟩:=hra;obtain ⟨cs,rfl⟩:=q2;obtain ⟨rfl,hd⟩:=Dat.of_args (j:=0) (rs:=ls) ha q1 (fun k=>by rw [Nat.zero_add]);refine Calls.mono (Xt (cs:=cs.toList) v4 v5 v6 v7 v8 v9 (by simpa [Value.cells] using hd) (fun g hg=>⟨(hkp g hg).1,noM⟩) he) (fun e w' hp2=>?_);obtain ⟨b,rfl,rfl,hg⟩:=hp2;refine ⟨hg.os,hg.tape,hg.output,hg.size,fun b hb _=>hg.old b hb,fun q=>⟨fun _=>none,[⟨false,[.bool b]⟩],[],?_,⟨fun _ _ h=>(by cases h),fun _ _ h=>(by cases h),fun _ _ _ _ _ h=>(by cases h),fun _ _ _ _ _ _ _ h=>(by cases h),fun _ _ _ _ _ _ h=>(by cases h)⟩,⟨⟨rfl,trivial⟩,rfl⟩,fun b hb=>(noM hb).elim⟩⟩;rw [show Tryz.f3.resultTypes.toList=[4] by kernel_rfl];simp [Aq,ty4,AW,lk4,ag4];rfl
  exact ⟨Bv (ci:=⟨3,[],true,true,[],[]⟩) (main true),Bv (ci:=⟨3,[],false,true,[],[]⟩) (main false)⟩
end Go.Px
