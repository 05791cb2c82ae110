/- Part 4. -/
import Derived.Test.YtlephafgekoeaaaGreatPart03
set_option linter.unusedVariables false
set_option linter.unusedSimpArgs false
section
namespace Go.Px
section
variable {E:Env} {N:Nat} {P:Program} {n0:Nz} {nt:Nat} {β:Nat→Option Nat} {σ:Nat→Option (Nat×Nat)} {s s':St0 E N} {a:Act} {w w':World}
def Qy (P:Program) (n0:Nz) (β:Nat→Option Nat) (σ:Nat→Option (Nat×Nat)) (s:St0 E N) (a:Act) (w:World) (o:Oper) (id:Nat) (c:AC0 E N) (wr:Wr (std E N)):Prop :=
 ∃z β' σ' w',(execOp a.eval o).run P w=.ok (.value z) w'∧Mem P n0 β' σ' (s.apply wr) w'∧Ext P n0 (·=id) β σ s w β' σ' (s.apply wr) w'∧Tidy a (·=id) s (s.apply wr) ∧
  RelC P n0 β' σ' (s.apply wr) w' c z∧(∀n,Fresh a s n→n≠id→n∉c.names)∧wr.ts=[]
theorem pj (hs:Sim P n0 nt β σ s a w) {id:Nat} (hid:Fresh a s id) {o:Oper} {T:TypeId} {cs:List (AC0 E N)} {v:Value}
    (hr:RelCs P n0 β σ s w cs v.cells.toList) (hcn:∀n,Fresh a s n→n∉AH cs) (hbh:∀blk,BH blk v.cells T cs)
    (hex:(execOp a.eval o).run P w=.ok (.value (.pointer (some ⟨w.heap.size,0,none⟩))) (w.alloc (.cells v.cells T))) :
    Qy P n0 β σ s a w o id (.ptr id 0) { bs:=[(id,some { cs,dirty:=true })] }:=by
  obtain⟨m1,x1⟩:=AA8 hs.M hid hr (hcn id hid) T (hbh _) (wr:={ bs:=[(id,some { cs,dirty:=true })] }) rfl rfl;refine⟨_,_,σ,_,hex,m1,x1,o4 hcn rfl rfl rfl,⟨w.heap.size,rfl,fun e he=>BE _ _ _⟩,fun n _ hn=>by simpa[AC.names] using hn,rfl⟩
theorem Iv {id blk cap:Nat} {h:HEnt (std E N)} {σ':Nat→Option (Nat×Nat)} {s':St0 E N} {w':World} {T0:TypeId} (hsl:AK P T0=.sl h.e) (hg:s'.getH id=some h) (hs:σ' id=some (blk,cap)) {n:Nat} (hn:n=h.l.length) :
    RelC P n0 β σ' s' w' (.own h.e id) (.slice (some ⟨blk,0,none⟩) n cap) :=
  ⟨⟨T0,hsl,_,_,_,rfl⟩,fun h2 hh2=>by rw[hg]at hh2;cases hh2;exact⟨rfl,.inl ⟨blk,cap,hs,by rw[hn]⟩⟩⟩
theorem Vq (hs:Sim P n0 nt β σ s a w) {ctx:List (Nat×Bool)} (hf:Facts a ctx) {id:Nat} (hid:Fresh a s id) {o:Oper} {T:TypeId} {len:Nat} {parts:Array (Nat×Operand)}
    (hop:o.op=.buildSlice T len parts) {as:List Bool} {c:AC0 E N} {wr:Wr (std E N)} {m m':Nat} (h:RM.run s (KA P ctx id (.buildSlice T len parts)) m=.ok ((as,c,wr),m')) :
    Qy P n0 β σ s a w o id c wr:=by
  simp only[KA]at h
  split at h
  · trivial
  rename_i e he
  split at h
  · rename_i z ts hz hts;obtain⟨_,m1,h1,h2⟩:=zza h;obtain⟨cs,m2,h3,h4⟩:=zza h2;obtain⟨⟨rows,fr,nw⟩,m3,h5,h6⟩:=zza h4;obtain⟨_,m4,h7,h8⟩:=zza h6;have hr8:=zzc h8;simp only[Prod.mk.injEq]at hr8;obtain⟨_,rfl,rfl⟩:=hr8;have hg:=zzd h1;simp only[zzj]at hg;have hlim:len*P.cellsOf e≤100000:=Nat.le_of_ble_eq_true hg.1;have hzl:=AG.1 hg.2;have hk:=zzd h7;have hu:=Py he;obtain⟨hsz,hpos⟩:=CL hts;obtain⟨ti,v,hi,hiz,hzv,hrz,hnz,hoz⟩:=LW (n0:=n0) (β:=β) (σ:=σ) (s:=s) (w:=w) hz;have hvl:v.cells.size=P.cellsOf e:=by have:=RelCs.length hrz.1;simp_all
    have hinit:RelCs P n0 β σ s w (FF len z.cs) ((Array.range (len*P.cellsOf e)).map (v.cells[· % v.cells.size]!)).toList:=by
      rw[←hvl,tn v.cells (by omega) len];exact zK hrz.1 len
    obtain ⟨cells',f1,f2,f3,f4⟩:=Xp hs hf (place:=fun i=>some (i * P.cellsOf e,e)) (place':=fun i=>some (i * P.cellsOf e,P.cellsOf e)) (fun i off T hp=>by
        simp_all) h3 hinit
    have hcsl:cs.length=len*ts.length:=by rw[f3,dS,hzl,hsz]
    have hcl:cells'.size=len*ts.length:=by have:=RelCs.length f2;simp_all
    have hcn:∀n,Fresh a s n→n∉AH cs:=fun n hn=>f4 n hn (by
      rw[BU]
      rintro⟨c,hc,hm⟩
      have:∀k,c∈FF k z.cs→c∈z.cs:=by
        intro k
        induction k with
        |zero=>intro h;trivial
        |succ k ih=>intro h;simp only[FF,List.mem_append]at h;grind
      have h2:=BU.2 ⟨c,this len hc,hm⟩
      simp_all)
    have hch:∀i,i<len→(Ja (P.cellsOf e) len cs)[i]?=some ((cs.drop (i*ts.length)).take ts.length):=fun i hi=>by rw[YK _ _ _ _ hi,hsz]
    have hcv:∀i,i<len→(Ja (P.cellsOf e) len cells'.toList)[i]?=some ((cells'.toList.drop (i*ts.length)).take ts.length):=fun i hi=>by rw[YK _ _ _ _ hi,hsz]
    obtain⟨g1,g2,g3,g5,g4⟩:=mC hs.M (css:=Ja (P.cellsOf e) len cs) (vss:=Ja (P.cellsOf e) len cells'.toList) (by rw[JY,JY]) (fun i c1 v1 hc1 hv1=>by
      have hi:i<len:=by have:=(List.getElem?_eq_some_iff.1 hc1).1;rw[JY]at this;exact this
      rw[hch i hi]at hc1;rw[hcv i hi]at hv1;cases hc1;cases hv1;exact RelCs.take _ (RelCs.drop _ f2)) h5
    have hrl:rows.length=len:=by rw[g3,JY]
    have hmulle:∀i j,i<len→j<ts.length→i*ts.length+j<cells'.size:=fun i j hi hj=>by
      rw[hcl];have:(i+1)*ts.length≤len*ts.length:=Nat.mul_le_mul_right _ hi
      grind
    have key:=kV hs.M hid g1.pre (h:={ e,frozen:=false,nw,l:=rows.map (·.map Leaf.pv),dirty:=true })
      (wr:={ hs:=fr++[(id,some { e,frozen:=false,nw,l:=rows.map (·.map Leaf.pv),dirty:=true })] }) rfl rfl rfl rfl rfl (Grow.refl w) (cells:=cells') (cap:=len) (t:=T) (ts:=ts)
      (B6 he) hts (fun r hr=>by
        obtain⟨l,hl,rfl⟩:=List.mem_map.1 hr;obtain⟨i,hi,hget⟩:=List.mem_iff_getElem.1 hl;have hi':i<len:=by omega
        have:=g5 i l _ (by grind) (hch i hi');rw[List.length_map,this,List.length_take,List.length_drop,hcsl];have:(i+1)*ts.length≤len*ts.length:=Nat.mul_le_mul_right _ hi'
        grind) hcl (by simp[hrl]) hs.n0le (fun i j=>cells'.getD (i*ts.length+j) undef)
      (fun i j hi hj=>by
        have hi':i<len:=by grind
        have:=hmulle i j hi' hj;simp[this])
      (fun i j t' hi hj=>by
        have hi':i<len:=by grind
        have hj':j<ts.length:=(List.getElem?_eq_some_iff.1 hj).1;have hlt:=hmulle i j hi' hj';refine g4 ts (s.apply { hs:=fr }) hk (g1.sub rfl rfl) (g1.frz rfl) nw (fun h=>h) i j t' _ _ (hcv i hi') hj ?_;rw[List.getElem?_take,if_pos hj',List.getElem?_drop];simp[hlt])
    obtain⟨k1,k2,k3,k4⟩:=key;refine⟨.slice (some ⟨w.heap.size,0,none⟩) len len,β,_,_,?_,k1,k2,k3,?_,fun n _ hn=>by simpa[AC.names] using hn,rfl⟩
    · refine(OL (x:=Instr.buildSlice T len (parts.map fun (i,x)=>(i,a.eval x))) (by simp[execOp,hop]) ?_);have hl:(parts.map fun (i,x)=>(i,a.eval x)).toList=parts.toList.map fun (i,x)=>(i,a.eval x):=by simp
      have hnl:¬(len*P.cellsOf e>2 ^ 24):=by omega
      by_cases h0:len*P.cellsOf e=0
      · have hr0:(Array.range (len*P.cellsOf e)).map (v.cells[· % v.cells.size]!)=#[]:=by grind
        have hr1:(Array.range (len*P.cellsOf e)).map ((#[]:Array Value)[· % (#[]:Array Value).size]!)=#[]:=by grind
        rw[hr0]at f1;simp[Instr.buildSlice,run_underlying hu,BX hi,hnl,h0,hl,f1,newRow,Array.range_zero']
      simp[Instr.buildSlice,run_underlying hu,BX hi,hnl,h0,hl,f1,newRow,hzv]
    exact Iv (B6 he) k4 (BE _ _ _) (by simp[hrl])
  trivial
theorem X7 {n:Int} {b:Nat} (h:decide (0≤n∧n≤17592186044416∧n*(b:Int)≤17592186044416∧b≤1048576)=true):0≤n∧n≤17592186044416∧n*(b:Int)≤17592186044416∧b≤1048576:=of_decide_eq_true h
theorem nM {x y:Operand} (h:fF x y=true) (k:IntKind) (i:Int) (hx:a.eval x=.int k i):∃k',a.eval y=.int k' i:=by
 unfold fF at h
 split at h
 ·simp_all
 ·rename_i k1 n1 k2 n2;have:=of_decide_eq_true h;subst this;have hx':Value.int k1 n1=.int k i:=hx;cases hx';exact⟨k2,rfl⟩
 cases h
theorem Ue:∀ {cs:List (AC0 E N)} {ls:List AQ} {fr:List (Nat×Option (HEnt (std E N)))} {nw:Bool} {k k':Nat},cs.all fP=true →
    RM.run s (JI (O:=std E N) cs) k=.ok ((ls,fr,nw),k')→fr=[]∧nw=true
  | [],ls,fr,nw,k,k',_,h=>by
    have hr:=zzc h;simp only[Prod.mk.injEq]at hr;exact⟨hr.2.1.symm,hr.2.2.symm⟩
  |c::cs,ls,fr,nw,k,k',hc,h=>by
    simp only[List.all_cons,zzj]at hc;obtain⟨⟨l,f1,n1⟩,k1,h1,h2⟩:=zza h;obtain⟨⟨ls2,f2,n2⟩,k2,h3,h4⟩:=zza h2;have hr:=zzc h4;simp only[Prod.mk.injEq]at hr;obtain⟨_,rfl,rfl⟩:=hr;obtain⟨rfl,rfl⟩:=Ue hc.2 h3;have:f1=[]∧n1=true:=by
      cases c<;>first
        |(have hr:=zzc h1;simp only[Prod.mk.injEq]at hr;exact⟨hr.2.1.symm,hr.2.2.symm⟩)
        |(cases hc.1)
    obtain⟨rfl,rfl⟩:=this;exact⟨rfl,rfl⟩
theorem jo (hs:Sim P n0 nt β σ s a w) {ctx:List (Nat×Bool)} (hf:Facts a ctx) {id:Nat} (hid:Fresh a s id) {o:Oper} {T:TypeId} {len cap:Operand}
    (hop:o.op=.makeSlice T len cap) {as:List Bool} {c:AC0 E N} {wr:Wr (std E N)} {m m':Nat} (h:RM.run s (KA P ctx id (.makeSlice T len cap)) m=.ok ((as,c,wr),m')) (has:∀b∈as,b=true) :
    Qy P n0 β σ s a w o id c wr:=by
  simp only[KA]at h
  split at h
  · trivial
  rename_i e he
  split at h
  · rename_i z ti ts hz hi hts;obtain⟨n,m1,h1,h2⟩:=zza h;obtain⟨_,m2,h3,h4⟩:=zza h2;obtain⟨⟨ls,fr,nw⟩,m3,h5,h6⟩:=zza h4;have hr6:=zzc h6;simp only[Prod.mk.injEq]at hr6;obtain⟨rfl,rfl,rfl⟩:=hr6;obtain⟨n,rfl⟩:∃j:Int,j=n:=⟨n,rfl⟩;have hg:=zzd h3;simp only[zzj]at hg;obtain⟨⟨hsame,hk⟩,hsc⟩:=hg;have hb:=X7 (n:=n) (b:=ti.bytes) (has _ zzl);have hu:=Py he;obtain⟨hsz,hpos⟩:=CL hts;obtain⟨ti',v,hi',hiz,hzv,hrz,hnz,hoz⟩:=LW (n0:=n0) (β:=β) (σ:=σ) (s:=s) (w:=w) hz;rw[hi]at hi';cases hi';obtain⟨rfl,rfl⟩:=Ue hsc h5;have frn:FrOK s ([]:List (Nat×Option (HEnt (std E N)))):=fun n v hm=>by simp at hm
    obtain⟨_,_,hll,hlf⟩:=T6 hs.M hrz.1 h5;have hk1:AX P ts z.cs=true:=by
      simp only[K0]at hk
      grind
    have hzl:z.cs.length=ts.length:=by
      have:∀{ts:List TypeId} {cs:List (AC0 E N)},AX P ts cs=true→cs.length=ts.length:=by
        intro ts
        induction ts with
        | nil => intro cs h; cases cs with
                 |nil=>rfl
                 |cons=>trivial
        | cons t ts ih => intro cs h; cases cs with
                 |nil=>trivial
                 | cons c cs => simp only [AX] at h; split at h
                                · simp[ih h]
                                cases h
      grind
    have hvl:v.cells.size=ts.length:=by have:=RelCs.length hrz.1;simp_all
    have htz:ti.size=ts.length:=by rw[←hsz];simp[Program.cellsOf,hi]
    obtain⟨k1,hk1'⟩:=XN hs hf h1;obtain⟨k2,hk2'⟩:=nM hsame _ _ hk1';have hcells:(madeCells v.cells (n.toNat*ti.size)).toList=FF n.toNat v.cells.toList:=by
      rw[htz,←hvl];exact tn v.cells (by omega) _
    have hml:(madeCells v.cells (n.toNat*ti.size)).size=n.toNat*ts.length:=by rw[size_madeCells,htz]
    have hmulle:∀i j,i<n.toNat→j<ts.length→i*ts.length+j<n.toNat*ts.length:=fun i j hi hj=>by
      have:(i+1)*ts.length≤n.toNat*ts.length:=Nat.mul_le_mul_right _ hi
      grind
    have hcell:∀i j,i<n.toNat→j<ts.length→(madeCells v.cells (n.toNat*ti.size))[i*ts.length+j]?=v.cells[j]?:=fun i j hi' hj=>by
      rw[←Array.getElem?_toList,hcells,ee (by simp;omega) _ _ (by simp_all)];have:(i*ts.length+j)%v.cells.toList.length=j:=by
        simp only[Array.length_toList,hvl];rw[Nat.add_comm,Nat.mul_comm,Nat.add_mul_mod_self_left];exact Nat.mod_eq_of_lt hj
      simp_all
    have key:=kV hs.M hid frn.pre (h:={ e,frozen:=false,nw:=true,l:=List.replicate n.toNat (ls.map Leaf.pv),dirty:=true })
      (wr:={ hs:=[(id,some { e,frozen:=false,nw:=true,l:=List.replicate n.toNat (ls.map Leaf.pv),dirty:=true })] }) rfl rfl rfl rfl rfl (Grow.refl w)
      (cells:=madeCells v.cells (n.toNat*ti.size)) (cap:=n.toNat) (t:=T) (ts:=ts)
      (B6 he) hts (fun r hr=>by
        simp_all) hml (by simp) hs.n0le (fun i j=>v.cells.getD j undef)
      (fun i j hi' hj=>by
        simp_all)
      (fun i j t' hi' hj=>by
        have hi2:i<n.toNat:=by simp_all
        have hj':j<ts.length:=(List.getElem?_eq_some_iff.1 hj).1;have:=hlf ts (s.apply { hs:=[] }) hk1 (frn.sub rfl rfl) (frn.frz rfl) true (fun h=>h) j t' (v.cells.getD j undef) hj (by simp_all);have hrow:AB (List.replicate n.toNat (ls.map Leaf.pv)) i=ls.map Leaf.pv:=by simp[AB,hi2]
        simpa[AD,hrow] using this)
    obtain⟨q1,q2,q3,q4⟩:=key;refine⟨.slice (some ⟨w.heap.size,0,none⟩) n.toNat n.toNat,β,_,_,?_,q1,q2,q3,?_,fun k _ hn=>by simpa[AC.names] using hn,rfl⟩
    · refine OL (x:=Instr.makeSlice T (a.eval len) (a.eval cap)) (by simp[execOp,hop]) ?_;rw[hk1',hk2'];exact run_make (P:=P) (w:=w) T e ti v hu hi hiz k1 k2 n n hb.1 (Int.le_refl _) (by grind) (by omega)
    exact Iv (B6 he) q4 (BE _ _ _) (by simp)
  trivial
def oD (P:Program) (t:TypeId):Prop:=(∀e,AK P t≠.sl e)∧AK P t≠.opq
theorem wX (m:Mem P n0 β σ s w) {c:AC0 E N} {v:Value} {e:TypeId} {l:Rows} {nw:Bool} {k k':Nat} (hc:RelC P n0 β σ s w c v) (h:RM.run s (bD (O:=std E N) c) k=.ok ((e,l,nw),k')) :
    ∃(av:Option Addr) (cap:Nat) (ts:List TypeId) (u:Nat→Nat→Value),v=.slice av l.length cap∧l.length≤cap∧AW P e=some ts∧(∀r∈l,r.length=ts.length) ∧
      (l=[]∨∃b off,av=some ⟨b,off,none⟩∧∀i j,i<l.length→j<ts.length→w.cell? ⟨b,off+(i*ts.length+j),none⟩=some (u i j)) ∧
      (∀(nb:Bool),(nb=true→nw=true∨∀t'∈ts,oD P t')→∀i j t',i<l.length→ts[j]?=some t'→Rep P w (StB n0 β σ s nb) t' (u i j) (AD l i j)):=by
  have weak:∀ (ts:List TypeId) (u:Nat→Nat→Value),(∀ i j t',i<l.length→ts[j]?=some t'→Rep P w (StB n0 β σ s nw) t' (u i j) (AD l i j)) →
      ∀(nb:Bool),(nb=true→nw=true∨∀t'∈ts,oD P t')→∀i j t',i<l.length→ts[j]?=some t'→Rep P w (StB n0 β σ s nb) t' (u i j) (AD l i j):=by
    intro ts u hu nb hnb i j t' hi hj;have:=hu i j t' hi hj;cases nb with
    |false=>exact this.st (fun b hb=>⟨hb.1,hb.2.mono (fun h=>by cases h)⟩)
    |true =>
      rcases hnb rfl with h1|h1
      · simp_all
      · generalize u i j=x,AD l i j=y at this;cases this with
        |int h=>exact .int h
        |bool h=>exact .bool h
        |str h=>exact .str h
        |opq h _ _=>exact((h1 t' (List.mem_of_getElem? hj)).2 h).elim
        |ptN h _=>exact((h1 t' (List.mem_of_getElem? hj)).1 _ h).elim
        |pt h _ _=>exact((h1 t' (List.mem_of_getElem? hj)).1 _ h).elim
        |sl v h _ _ _ _ _ _=>exact((h1 t' (List.mem_of_getElem? hj)).1 _ h).elim
  cases c with
  |nil e0 =>
    have hr:=zzc h;simp only[Prod.mk.injEq]at hr;obtain⟨rfl,rfl,rfl⟩:=hr;obtain⟨t,ts,ht,hts,av,rfl⟩:=hc
    simp_all
  |imm e0 nw0 l0 =>
    replace h : RM.run s (match Nat.blt e0 ptB with | true => RM.ret (e0, l0, nw0) | false => RM.fail "no slice") _ = .ok _ := h
    split at h
    case h_2=>trivial
    rename_i hlp;have hlp:=A7.1 hlp;have hr:=zzc h;simp only[Prod.mk.injEq]at hr;obtain⟨rfl,rfl,rfl⟩:=hr;obtain⟨t,ht,hrep⟩:=hc;cases hrep with
    |ptN h8 h9=>grind
    |pt h8 _ _=>grind
    | @sl _ e2 ts av len cap _ vv ht' hts hl hr hcc hm hv =>
      rw[ht]at ht';cases ht';subst hl;refine⟨av,cap,ts,vv,rfl,hcc,hts,hr,?_,weak ts vv hv⟩
      grind
  |own e0 id =>
    obtain⟨k1,h⟩:=zzf h;cases hh:s.getH id with
    |none=>rw[hh]at h;trivial
    |some en =>
      rw[hh]at h;have hr:=zzc h;simp only[Prod.mk.injEq]at hr;obtain⟨rfl,rfl,rfl⟩:=hr;obtain⟨⟨te,hte,_⟩,hk⟩:=hc;obtain⟨hee,ho⟩:=hk en hh
      rcases m.H id en hh with⟨t,ts,ht,hts,hrl,hm⟩|hM
      case inr=>exact(hM.noSl (by rw[hee];exact hte)).elim
      rcases ho with⟨blk,cap,hs,rfl⟩|⟨hs,hz,av,rfl⟩
      · rcases hm with⟨hn,_⟩|⟨blk',cap',cells,el,hs',hheap,hel,hsz,hcap,hnw,u,hu,hrep⟩
        · simp_all
        · rw[hs']at hs;cases hs;exact⟨_,cap,ts,u,rfl,hcap,hts,hrl,.inr ⟨blk,0,rfl,fun i j hi hj=>by rw[Du hheap,Nat.zero_add];simp_all⟩,weak ts u hrep⟩
      simp_all
  |_=>trivial
def flat (n sz:Nat) (f:Nat→Nat→Value):List Value:=(List.range (n*sz)).map fun k=>f (k / sz) (k%sz)
theorem CX (n sz:Nat) (f:Nat→Nat→Value):(flat n sz f).length=n*sz:=by simp[flat]
theorem PH {i j n sz:Nat} (hi:i<n) (hj:j<sz):i*sz+j<n*sz:=by
 have:(i+1)*sz≤n*sz:=Nat.mul_le_mul_right _ hi
 grind
theorem Xx {n sz:Nat} (f:Nat→Nat→Value) {i j:Nat} (hi:i<n) (hj:j<sz):(flat n sz f)[i*sz+j]?=some (f i j):=by
 have h1:(i*sz+j) / sz=i:=by
  rw[Nat.add_comm,Nat.mul_comm,Nat.add_mul_div_left _ _ (by omega),Nat.div_eq_of_lt hj,Nat.zero_add]
 have h2:(i*sz+j)%sz=j:=by
  rw[Nat.add_comm,Nat.mul_comm,Nat.add_mul_mod_self_left];exact Nat.mod_eq_of_lt hj
 simp[flat,PH hi hj,h1,h2]
theorem Xm {n sz:Nat} (hsz:0<sz) {f:Nat→Nat→Value} {b off:Nat} (h:∀ i j,i<n→j<sz→w.cell? ⟨b,off+(i * sz+j),none⟩=some (f i j)) :
    ∀j v,(flat n sz f)[j]?=some v→w.cell? ((⟨b,off,none⟩:Addr).add j)=some v:=by
  intro j v hj;have hlt:j<n*sz:=by have:=(List.getElem?_eq_some_iff.1 hj).1;rwa[CX]at this
  have hd:j / sz<n:=Nat.div_lt_of_lt_mul (by grind);have hm:j%sz<sz:=Nat.mod_lt _ hsz;have e:j=j / sz*sz+j%sz:=by rw[Nat.mul_comm];exact(Nat.div_add_mod j sz).symm
  have:=h (j / sz) (j%sz) hd hm;rw[←e]at this;rw[Iw,this];rw[e,Xx f hd hm]at hj;exact hj
theorem zY {n sz:Nat} (hsz:0<sz) {f:Nat→Nat→Value} (h:∀i j,i<n→j<sz→(f i j).oneCell'=true):∀v∈flat n sz f,v.oneCell'=true:=by
 intro v hv;obtain⟨j,hj,rfl⟩:=List.mem_map.1 hv;have hlt:=List.mem_range.1 hj;exact h _ _ (Nat.div_lt_of_lt_mul (by grind)) (Nat.mod_lt _ hsz)
theorem Rep.one {St:Blk→Prop} {t:TypeId} {v:Value} {p:PV} (h:Rep P w St t v p):v.oneCell'=true:=by cases h<;>first|rfl|assumption
theorem gz {T ty e:TypeId} {ti:TypeInfo} (hu:P.underlying T=some (.slice e)) (hi:P.info? e=some ti) {base av:Option Addr} {n cap cap':Nat} (hc:n≤cap) :
    (Builtin.append_ #[T,T] ty #[.slice base n cap,.slice av 0 cap']).run P w=.ok (.slice base n cap) w:=by
  cases av<;>cases base<;>simp[Builtin.append_,run_underlying hu,sizeOf,typeInfo,hi,Builtin.lenOf,hc,Builtin.firstCells,loadCells,loadCellsFrom,storeCells]
theorem ki {T ty e:TypeId} {ti:TypeInfo} {z:Value} (hu:P.underlying T=some (.slice e)) (hi:P.info? e=some ti) (hz:ti.zero=some z) {base:Option Addr} {n cap m c b off:Nat} {olds news:List Value}
    (hlo:olds.length=n*ti.size) (holds:∀b,base=some b→∀j v,olds[j]?=some v→w.cell? (b.add j)=some v) (hnb:base=none→n=0∧cap=0)
    (hl:news.length=m*ti.size) (hnews:∀j v,news[j]?=some v→w.cell? ((⟨b,off,none⟩:Addr).add j)=some v)
    (hg:cap<n+m) (h63:((n+m:Nat):Int)≤9223372036854775807) (h47:(n+m)*ti.bytes≤140737488355328) :
    (Builtin.append_ #[T,T] ty #[.slice base n cap,.slice (some ⟨b,off,none⟩) m c]).run P w =
      .ok (.slice (some ⟨w.heap.size,0,none⟩) (n+m) (grownCap w (n+m) cap e)) (w.drew.alloc (.cells (olds.toArray++news.toArray++Builtin.zeroCells z.cells (grownCap w (n+m) cap e-(n+m))) e)):=by
  cases base with
  |some bb=>exact run_append_grow (P:=P) w T ty e ti z hu hi hz bb n cap olds hlo (holds bb rfl) ⟨b,off,none⟩ m c news hl hnews hg h63 (growslice_fits hg h47)
  |none =>
    obtain⟨rfl,rfl⟩:=hnb rfl;have h0:olds=[]:=List.eq_nil_of_length_eq_zero (by omega);subst h0;have:=run_append_nil (P:=P) w T ty e ti z hu hi hz ⟨b,off,none⟩ m c news hl hnews (by omega) (by omega) (by grind)
    simp_all
theorem bO {P:Program}:∀{ts:List TypeId},cQ P ts=0→∀t'∈ts,oD P t'
 | [],_,t',ht'=>by simp at ht'
 |t::ts,h0,t',ht'=>by
  simp only[cQ]at h0
  rcases List.mem_cons.1 ht' with rfl|ht'
  ·exact⟨fun e2 he2=>by simp_all,fun he2=>by simp_all⟩
  exact bO (by omega) t' ht'
end
section
variable {E:Env} {N:Nat} {P:Program} {n0:Nz} {nt:Nat} {β:Nat→Option Nat} {σ:Nat→Option (Nat×Nat)} {s s':St0 E N} {a:Act} {w w':World}
theorem aG (m:Mem P n0 β σ s w) {id:Nat} (hf:Fresh a s id) {pre:List (Nat×Option (HEnt (std E N)))} (hpre:PreOK s pre) {h:HEnt (std E N)} {wr:Wr (std E N)}
    (ht0:wr.ts=[]) (hb:wr.bs=[]) (hh:wr.hs=pre++[(id,some h)]) (hd:h.dirty=true) (hl:h.l=[]) {t:TypeId} {ts:List TypeId}
    (ht:AK P t=.sl h.e) (hts:AW P h.e=some ts) :
    Mem P n0 β (upd σ id none) (s.apply wr) w∧Ext P n0 (·=id) β σ s w β (upd σ id none) (s.apply wr) w∧Tidy a (·=id) s (s.apply wr)∧(s.apply wr).getH id=some h:=by
  have gB:=fun n=>State.getB_apply0 s wr hb n
  have gs:∀n,(s.apply wr).getH n=if n=id then some h else(s.apply { hs:=pre }).getH n:=fun n=>by
    unfold State.apply State.getH;simp only[hh,FC,BO];exact BQ _ _ _ _
  have fget:∀n h',n≠id→(s.apply wr).getH n=some h'→∃h0,s.getH n=some h0∧(h'=h0∨h'={ h0 with frozen:=true,dirty:=true }):=fun n h' hn he=>by
    rw[gs,if_neg hn]at he;exact hpre.get rfl n h' he
  have hget:(s.apply wr).getH id=some h:=by simp_all
  have x:Ext P n0 (·=id) β σ s w β (upd σ id none) (s.apply wr) w:=by
    refine⟨rfl,rfl,rfl,Nat.le_refl _,fun b hb _=>.inl rfl,fun b hb=>?_,fun b e he hn=>?_,fun n e he hn=>?_⟩
    · rcases hb with⟨n,e,he,hb⟩|⟨n,e,cap',he,hfz,hb⟩
      · rw[gB]at he;exact .inl (.inl ⟨n,e,he,hb⟩)
      by_cases hid:n=id
      · rw[hid,BE]at hb;cases hb
      obtain⟨h0,hh0,h1⟩:=fget n e hid he;rw[BK _ _ hid]at hb
      rcases h1 with rfl|rfl
      · exact .inl (.inr ⟨n,e,cap',hh0,hfz,hb⟩)
      grind
    · simp_all
    obtain⟨h0,hh0,h1⟩:=fget n e hn he;refine⟨h0,hh0,BK _ _ hn,?_⟩
    grind
  refine⟨S7 (id:=id) m x (fun n e he=>?_) (fun n e blk he hb=>rfl) (fun n h' hn he=>?_) (fun n h' blk cap' hn he hs=>rfl) (fun h' he=>?_) (fun blk cap' hs=>?_),x,⟨fun n hfn hn=>?_,fun n e he hd'=>?_,fun n e he hd'=>?_⟩,hget⟩
  · rw[gB]at he;exact⟨e,he,rfl,fun k hk h=>(hf.b n e he).2 (h▸hk)⟩
  · obtain⟨h0,hh0,h1⟩:=fget n h' hn he;refine⟨h0,hh0,?_⟩
    rcases h1 with rfl|rfl
    · exact⟨rfl,rfl,rfl,fun h=>h,BK _ _ hn⟩
    exact⟨rfl,rfl,rfl,(fun h=>by cases h),BK _ _ hn⟩
  · rw[hget]at he;cases he;exact .inl ⟨t,ts,ht,hts,by grind,.inl ⟨BE _ _ _,hl⟩⟩
  · rw[BE]at hs;cases hs
  · refine⟨fun k tv hk=>?_,fun k e he=>?_,fun k e he=>?_⟩
    · rw[State.getT_apply0 s wr ht0]at hk;exact hfn.t k tv hk
    · rw[gB]at he;exact hfn.b k e he
    by_cases hk:k=id
    · omega
    obtain⟨h0,hh0,_⟩:=fget k e hk he;exact hfn.h k h0 hh0
  · simp_all
  grind
theorem X0 (m:Mem P n0 β σ s w) {id:Nat} (hf:Fresh a s id) {i blk cap:Nat} {h0:HEnt (std E N)} (hi:s.getH i=some h0) (hfz0:h0.frozen=false) (hsi:σ i=some (blk,cap))
    {h:HEnt (std E N)} {wr:Wr (std E N)} (ht0:wr.ts=[]) (hb:wr.bs=[]) (hh:wr.hs=[(i,none),(id,some h)]) (hd:h.dirty=true) (hz:h.frozen=false)
    (ho:w'.os=w.os) (htp:w'.tape=w.tape) (hout:w'.output=w.output) (hsize:w'.heap.size=w.heap.size) (hother:∀b,b≠blk→w'.heap[b]?=w.heap[b]?)
    {cells:Array Value} (hheap:w'.heap[blk]?=some (.cells cells h.e (0,0))) {t:TypeId} {ts:List TypeId}
    (ht:AK P t=.sl h.e) (hts:AW P h.e=some ts) (hrl:∀r∈h.l,r.length=ts.length) (hsz:cells.size=cap*ts.length) (hcap:h.l.length≤cap) (hnw:Old n0 h.nw ⟨blk,true⟩)
    (v:Nat→Nat→Value) (hv:∀i j,i<h.l.length→j<ts.length→cells[i*ts.length+j]?=some (v i j))
    (hrep:∀i j t',i<h.l.length→ts[j]?=some t'→Rep P w (StB n0 β σ s h.nw) t' (v i j) (AD h.l i j)) :
    Mem P n0 β (upd σ id (some (blk,cap))) (s.apply wr) w'∧Ext P n0 (·=id) β σ s w β (upd σ id (some (blk,cap))) (s.apply wr) w'∧Tidy a (·=id) s (s.apply wr) ∧
      (s.apply wr).getH id=some h:=by
  have gB:=fun n=>State.getB_apply0 s wr hb n
  have hii:i≠id:=fun e=>hf.h i h0 hi e.symm
  have gs:∀n,(s.apply wr).getH n=if n=id then some h else if n=i then none else s.getH n:=fun n=>by
    unfold State.apply State.getH;simp only[hh,BO];rw[BQ,BQ]
  have fget:∀n h',n≠id→(s.apply wr).getH n=some h'→n≠i∧s.getH n=some h':=fun n h' hn he=>by
    simp_all
  have hget:(s.apply wr).getH id=some h:=by simp_all
  have hin:InM β σ s blk:=.inr ⟨i,h0,cap,hi,hfz0,hsi⟩;have x:Ext P n0 (·=id) β σ s w β (upd σ id (some (blk,cap))) (s.apply wr) w':=by
    refine⟨ho,htp,hout,by omega,fun b hb hm=>.inl (hother b (fun e=>hm (e▸hin))),fun b hb=>.inl ?_,fun b e he hn=>?_,fun n e he hn=>?_⟩
    · rcases hb with⟨n,e,he,hb⟩|⟨n,e,cap',he,hfz,hb⟩
      · rw[gB]at he;exact .inl ⟨n,e,he,hb⟩
      by_cases hid:n=id
      · rw[hid,BE]at hb;simp_all
      obtain⟨_,hh0⟩:=fget n e hid he;rw[BK _ _ hid]at hb;exact .inr ⟨n,e,cap',hh0,hfz,hb⟩
    · simp_all
    obtain⟨_,hh0⟩:=fget n e hn he;exact⟨e,hh0,BK _ _ hn,rfl,fun _=>rfl⟩
  refine⟨S7 (id:=id) m x (fun n e he=>?_) (fun n e blk' he hb=>?_) (fun n h' hn he=>?_) (fun n h' blk' cap' hn he hs=>?_) (fun h' he=>?_) (fun blk' cap' hs=>?_),x,⟨fun n hfn hn=>?_,fun n e he hd'=>?_,fun n e he hd'=>?_⟩,hget⟩
  · rw[gB]at he;exact⟨e,he,rfl,fun k hk h=>(hf.b n e he).2 (h▸hk)⟩
  · rw[gB]at he;exact hother blk' (fun e2=>m.uX n e i h0 blk cap he hi (e2▸hb) hsi)
  · obtain⟨_,hh0⟩:=fget n h' hn he;exact⟨h',hh0,rfl,rfl,rfl,fun h=>h,BK _ _ hn⟩
  · obtain⟨hni,hh0⟩:=fget n h' hn he;exact hother blk' (fun e2=>hni (m.uH n i h' h0 blk cap' cap hh0 hi (e2▸hs) hsi))
  · rw[hget]at he;cases he;exact .inl ⟨t,ts,ht,hts,hrl,.inr ⟨blk,cap,cells,h.e,BE _ _ _,hheap,rfl,hsz,hcap,hnw,v,hv,fun i j t' hi hj=>x.rep (hrep i j t' hi hj)⟩⟩
  · rw[BE]at hs;cases hs;refine⟨fun n e he hb=>?_,fun n h' cap'' hn he hs=>?_⟩
    · rw[gB]at he;exact m.uX n e i h0 blk cap he hi hb hsi
    obtain⟨hni,hh0⟩:=fget n h' hn he;exact hni (m.uH n i h' h0 blk cap'' cap hh0 hi hs hsi)
  · refine⟨fun k tv hk=>?_,fun k e he=>?_,fun k e he=>?_⟩
    · rw[State.getT_apply0 s wr ht0]at hk;exact hfn.t k tv hk
    · rw[gB]at he;exact hfn.b k e he
    by_cases hk:k=id
    · omega
    obtain⟨_,hh0⟩:=fget k e hk he;exact hfn.h k e hh0
  · simp_all
  grind
theorem sT (hs:Sim P n0 nt β σ s a w) {ctx:List (Nat×Bool)} (hf:Facts a ctx) {id:Nat} (hid:Fresh a s id) {o:Oper} {c:Call}
    (hop:o.op=.call c) (hb:c.callee=.builtin .append) {as:List Bool} {r:AC0 E N} {wr:Wr (std E N)} {m m':Nat} (h:RM.run s (KA P ctx id (.call c)) m=.ok ((as,r,wr),m')) (has:∀b∈as,b=true) :
    Qy P n0 β σ s a w o id r wr:=by
  obtain⟨callee,args,argTypes⟩:=c;simp only at hb;subst hb;simp only[KA]at h
  split at h
  case h_2=>exact(zzb h).elim
  rename_i x y T U hcal ha hT
  split at h
  case h_2=>exact(zzb h).elim
  rename_i e e' heT heU;obtain⟨_,m1,h1,h2⟩:=zza h;obtain⟨ca,m2,h3,h4⟩:=zza h2;obtain⟨cb,m3,h5,h6⟩:=zza h4;obtain⟨⟨eb,lb,nb'⟩,m4,h7,h8⟩:=zza h6;have hTU:=AG.1 (zzd h1);subst hTU;have ha':args=#[x,y]:=by apply Array.ext';simpa using ha
  have hT':argTypes=#[T,T]:=by apply Array.ext';simpa using hT
  subst ha';subst hT';have hu:=Py heT;obtain⟨hca,_,_⟩:=Ci hs hf h3;obtain⟨hcb,_,_⟩:=Ci hs hf h5;simp only at h8
  split at h8
  case h_2=>exact(zzb h8).elim
  rename_i ti ts z hi hts0 hz0;obtain⟨_,m5,h9,h10⟩:=zza h8;have hg9:=zzd h9;simp only[zzj]at hg9;have heb:=AG.1 hg9.1;have hzl0:=AG.1 hg9.2;subst heb;obtain⟨av,capb,ts1,u,hvb,hcb2,hts,hrlb,hmb,hrb⟩:=wX hs.M hcb h7;have hnn:ts=ts1:=by rw[hts]at hts0;exact(Option.some.inj hts0).symm
  clear hts0;subst hnn;obtain⟨hsz,hpos⟩:=CL hts;obtain⟨ti',zv,hi',hiz,hzv,hrz,hnz,hoz⟩:=LW (n0:=n0) (β:=β) (σ:=σ) (s:=s) (w:=w) hz0;rw[hi]at hi';cases hi';have htz:ti.size=ts.length:=by rw[←hsz];simp[Program.cellsOf,hi]
  have hex:(execOp a.eval o)=(do pure (.value (←Builtin.append_ #[T,T] o.type #[a.eval x,a.eval y]))):=by
    simp[execOp,hop,resolve,invoke,builtin]
  have hflat:∀nb:Bool,(nb=true→(nb'||iV P e)=true)→nb=true→nb'=true∨∀t'∈ts,oD P t':=fun nb hn hb=>by
    have:=hn hb;simp only[Bool.or_eq_true]at this
    rcases this with h|h
    · exact .inl h
    right
    unfold iV at h;rw[hts]at h;exact bO (AG.1 h)
  have main:∀ (pre:List (Nat×Option (HEnt (std E N)))) (nwa:Bool) (la:Rows) (base:Option Addr) (cap:Nat) (v0:Nat→Nat→Value),
      a.eval x=.slice base la.length cap→la.length≤cap→PreOK s pre→(∀r∈la,r.length=ts.length) →
      (∀i j t',i<la.length→ts[j]?=some t'→Rep P w (StB n0 β σ s nwa) t' (v0 i j) (AD la i j)) →
      ((la=[]∧cap=0)∨∃blk cells i h,base=some ⟨blk,0,none⟩∧w.heap[blk]?=some (.cells cells e (0,0))∧cells.size=cap*ts.length ∧
        (∀i j,i<la.length→j<ts.length→cells[i*ts.length+j]?=some (v0 i j))∧s.getH i=some h∧h.frozen=false∧σ i=some (blk,cap)∧pre=[(i,none)]∧Old n0 nwa ⟨blk,true⟩) →
      ((la++lb).length:Int)≤17592186044416→((la++lb).length:Int)*ti.bytes≤17592186044416 →
      ∀nw,(nw=true→nwa=true∧(nb'||iV P e)=true) →
      Qy P n0 β σ s a w o id (.own e id) { hs:=pre++[(id,some { e,frozen:=false,nw,l:=la++lb,dirty:=true })] }:=by
    intro pre nwa la base cap v0 hva hcap hpre hrla hra hmem hlen hby nw hnw;have hbytes:(la.length+lb.length)*ti.bytes≤140737488355328:=by
      have:((la.length+lb.length:Nat):Int)*(ti.bytes:Int)≤17592186044416:=by rw[List.length_append]at hby;exact hby
      have h3:(((la.length+lb.length)*ti.bytes:Nat):Int)≤17592186044416:=by rw[Int.natCast_mul];exact this
      omega
    have hrl:∀r∈la++lb,r.length=ts.length:=fun r hr=>(List.mem_append.1 hr).elim (hrla r) (hrlb r)
    have hpvl:∀i j,i<la.length→AD (la++lb) i j=AD la i j:=fun i j hi=>by simp[AD,AB,List.getD,List.getElem?_append_left hi]
    have hpvr:∀i j,la.length≤i→AD (la++lb) i j=AD lb (i-la.length) j:=fun i j hi=>by simp[AD,AB,List.getD,List.getElem?_append_right hi]
    have hrb':=hrb nw (hflat nw (fun h=>(hnw h).2));have hra':∀i j t',i<la.length→ts[j]?=some t'→Rep P w (StB n0 β σ s nw) t' (v0 i j) (AD la i j):=fun i j t' hi hj =>
      (hra i j t' hi hj).st (fun b hb=>⟨hb.1,hb.2.mono (fun h=>(hnw h).1)⟩)
    let v:Nat→Nat→Value:=fun i j=>if i<la.length then v0 i j else u (i-la.length) j
    have hrep:∀i j t',i<(la++lb).length→ts[j]?=some t'→Rep P w (StB n0 β σ s nw) t' (v i j) (AD (la++lb) i j):=fun i j t' hi hj=>by
      by_cases h:i<la.length
      · simp only[v,h,if_true];rw[hpvl i j h];exact hra' i j t' h hj
      simp only[v,h,if_false];rw[hpvr i j (by omega)];exact hrb' (i-la.length) j t' (by rw[List.length_append]at hi;omega) hj
    have hsub:=hpre.sub (wr:={ hs:=pre }) rfl rfl
    let hnew:HEnt (std E N):={ e,frozen:=false,nw,l:=la++lb,dirty:=true }
    by_cases hm0:lb.length=0
    ·
      have hlb:lb=[]:=List.length_eq_zero_iff.1 hm0;have hrun:(Builtin.append_ #[T,T] o.type #[a.eval x,a.eval y]).run P w=.ok (.slice base la.length cap) w:=by
        rw[hva,hvb,hm0];exact gz hu hi hcap
      rcases hmem with⟨hl0,hc0⟩|⟨blk,cells,i,h,hbase,hheap,hcs,hcells,hgi,hfz,hsi,hpr,hnb0⟩
      · obtain ⟨q1,q2,q3,q4⟩:=aG hs.M hid hpre (h:=hnew) (wr:={ hs:=pre++[(id,some hnew)] }) rfl rfl rfl rfl (by simp [hnew,hl0,hlb]) (B6 heT) hts;refine ⟨_,β,_,_,OL hex hrun,q1,q2,q3,?_,fun k _ hn=>by simpa [AC.names] using hn,rfl⟩;exact ⟨⟨_,B6 heT,_,_,_,rfl⟩,fun h2 hh2=>by
          rw[q4]at hh2;cases hh2;exact⟨rfl,.inr ⟨BE _ _ _,by simp[hnew,hl0,hlb],base,by rw[hl0,hc0];rfl⟩⟩⟩
      subst hpr;obtain⟨q1,q2,q3,q4⟩:=X0 hs.M hid hgi hfz hsi (h:=hnew) (wr:={ hs:=[(i,none)]++[(id,some hnew)] }) rfl rfl rfl rfl rfl rfl rfl rfl rfl (fun _ _=>rfl) hheap (B6 heT) hts hrl hcs
        (by simp[hnew,hlb];exact hcap) (hnb0.mono (fun h=>(hnw h).1)) v0 (fun i j hi hj=>hcells i j (by simpa[hnew,hlb] using hi) hj) (fun i j t' hi hj=>by
          have hi':i<la.length:=by simpa[hnew,hlb] using hi
          rw[show hnew.l=la++lb from rfl,hpvl i j hi'];exact hra' i j t' hi' hj)
      refine⟨_,β,_,_,OL hex hrun,q1,q2,q3,?_,fun k _ hn=>by simpa[AC.names] using hn,rfl⟩;rw[hbase];exact Iv (B6 heT) q4 (BE _ _ _) (by simp[hnew,hlb])
    obtain⟨b,off,hav,hcell⟩:∃b off,av=some ⟨b,off,none⟩∧∀i j,i<lb.length→j<ts.length→w.cell? ⟨b,off+(i*ts.length+j),none⟩=some (u i j):=by
      rcases hmb with h|h
      · rw[h]at hm0;simp at hm0
      exact h
    subst hav
    by_cases hroom:la.length+lb.length≤cap
    · rcases hmem with⟨hl0,hc0⟩|⟨blk,cells,i,h,hbase,hheap,hcs,hcells,hgi,hfz,hsi,hpr,hnb0⟩
      · omega
      subst hpr;subst hbase;have hle:la.length*ts.length+lb.length*ts.length≤cells.size:=by
        rw[hcs,←Nat.add_mul];exact Nat.mul_le_mul_right _ hroom
      have hone:∀v∈flat lb.length ts.length u,v.oneCell'=true:=zY hpos (fun i j hi hj=>by
        obtain⟨t',ht'⟩:∃t',ts[j]?=some t':=⟨ts[j],zzn hj⟩;exact(hrb false (fun h=>by cases h) i j t' hi ht').one)
      have hrun:=run_append_room (P:=P) (w:=w) T o.type e ti hu hi blk la.length cap cells hheap ⟨b,off,none⟩ lb.length capb (flat lb.length ts.length u) (by rw[CX,htz]) (Xm hpos hcell) hone hroom
        (by rw[CX,htz];exact hle)
      rw[htz,CX]at hrun;have hlt:(cells.toList.take (la.length*ts.length)).length=la.length*ts.length:=by
        have hq:la.length*ts.length≤cells.size:=Nat.le_trans (Nat.le_add_right _ _) hle;rw[List.length_take];exact Nat.min_eq_left (by rw[Array.length_toList];exact hq)
      obtain⟨q1,q2,q3,q4⟩:=X0 hs.M hid hgi hfz hsi (h:=hnew) (wr:={ hs:=[(i,none)]++[(id,some hnew)] }) rfl rfl rfl rfl rfl
        (w':=w.setRow blk (cells.toList.take (la.length*ts.length)++flat lb.length ts.length u++cells.toList.drop (la.length*ts.length+lb.length*ts.length)).toArray)
        rfl rfl rfl (by simp) (fun b hb=>setRow_other w blk b _ hb) (setRow_heap w blk cells _ _ _ hheap) (B6 heT) hts hrl
        (by simp only[List.size_toArray,List.length_append,hlt,CX,List.length_drop,Array.length_toList];omega)
        (by simp[hnew];exact hroom) (hnb0.mono (fun h=>(hnw h).1)) v (fun i j hi hj=>by
          have hi':i<la.length+lb.length:=by simpa[hnew] using hi
          rw[List.getElem?_toArray,List.append_assoc]
          by_cases h:i<la.length
          · have h1:=PH h hj;rw[List.getElem?_append_left (by rw[hlt];exact h1),List.getElem?_take,if_pos h1];simp only[v,h,if_true];rw[Array.getElem?_toList];exact hcells i j h hj
          have e1:la.length*ts.length≤i*ts.length:=Nat.mul_le_mul_right _ (by omega);have e2:i*ts.length+j-la.length*ts.length=(i-la.length)*ts.length+j:=by rw[Nat.sub_mul];omega
          rw[List.getElem?_append_right (by rw[hlt];omega),hlt,e2,List.getElem?_append_left (by rw[CX];exact PH (by omega) hj)];simp only[v,h,if_false];exact Xx u (by omega) hj) hrep
      refine⟨_,β,_,_,OL hex (by rw[hva,hvb];exact hrun),q1,q2,q3,?_,fun k _ hn=>by simpa[AC.names] using hn,rfl⟩;exact Iv (B6 heT) q4 (BE _ _ _) (by simp[hnew])
    have hnb:base=none→la.length=0∧cap=0:=fun hbn=>by
      rcases hmem with⟨h1,h2⟩|⟨blk,_,_,_,h1,_⟩
      · exact⟨by rw[h1];rfl,h2⟩
      rw[hbn]at h1;cases h1
    have holds:∀b,base=some b→∀j v,(flat la.length ts.length v0)[j]?=some v→w.cell? (b.add j)=some v:=fun b hb=>by
      rcases hmem with⟨h1,h2⟩|⟨blk,cells,i,h,h1,hheap,hcs,hcells,_⟩
      · intro j v hj;rw[h1]at hj;simp[flat]at hj
      rw[hb]at h1;cases h1;exact Xm hpos (fun i j hi hj=>by rw[Du hheap,Nat.zero_add];exact hcells i j hi hj)
    have hrun:=ki (P:=P) (w:=w) (ty:=o.type) hu hi hiz (base:=base) (n:=la.length) (cap:=cap) (m:=lb.length) (c:=capb) (b:=b) (off:=off)
      (olds:=flat la.length ts.length v0) (news:=flat lb.length ts.length u) (by rw[CX,htz]) holds hnb (by rw[CX,htz]) (Xm hpos hcell) (by omega) (by rw[List.length_append]at hlen;omega) hbytes
    have hge:=grownCap_ge w (la.length+lb.length) cap e;have hzl:zv.cells.size=ts.length:=by
      have h1:=RelCs.length hrz.1;simp at h1;omega
    have key:=kV hs.M hid hpre (h:=hnew) (wr:={ hs:=pre++[(id,some hnew)] }) rfl rfl rfl rfl rfl (Grow.drew w)
      (cells:=(flat la.length ts.length v0).toArray++(flat lb.length ts.length u).toArray++Builtin.zeroCells zv.cells (grownCap w (la.length+lb.length) cap e-(la.length+lb.length)))
      (cap:=grownCap w (la.length+lb.length) cap e) (t:=T) (ts:=ts) (B6 heT) hts hrl
      (by simp only[Array.size_append,List.size_toArray,CX,size_zeroCells,hzl,←Nat.add_mul];congr 1;omega)
      (by simp only[hnew,List.length_append];exact hge) hs.n0le v
      (fun i j hi hj=>by
        have hi':i<la.length+lb.length:=by simpa[hnew] using hi
        rw[Array.getElem?_append_left (by simp only[Array.size_append,List.size_toArray,CX,←Nat.add_mul];exact PH hi' hj)]
        by_cases h:i<la.length
        · rw[Array.getElem?_append_left (by simp only[List.size_toArray,CX];exact PH h hj)];simp only[List.getElem?_toArray,v,h,if_true];exact Xx v0 h hj
        have e1:la.length*ts.length≤i*ts.length:=Nat.mul_le_mul_right _ (by omega);rw[Array.getElem?_append_right (by simp only[List.size_toArray,CX];omega)];simp only[List.size_toArray,CX,List.getElem?_toArray,v,h,if_false];have e2:i*ts.length+j-la.length*ts.length=(i-la.length)*ts.length+j:=by rw[Nat.sub_mul];omega
        rw[e2];exact Xx u (by omega) hj)
      (fun i j t' hi hj=>(hrep i j t' hi hj).st (fun b hb=>⟨fun hm=>hb.1 (hsub.inM hm),hb.2⟩))
    obtain⟨q1,q2,q3,q4⟩:=key;refine⟨_,β,_,_,OL hex (by rw[hva,hvb];exact hrun),q1,q2,q3,Iv (B6 heT) q4 (BE _ _ _) (by simp[hnew]),fun k _ hn=>by simpa[AC.names] using hn,rfl⟩
  split at h10
  · rename_i ea;obtain⟨_,m6,h11,h12⟩:=zza h10;have hea:=AG.1 (zzd h11);subst hea;have hr:=zzc h12;simp only[Prod.mk.injEq]at hr;obtain⟨rfl,rfl,rfl⟩:=hr;obtain⟨t0,ts1,_,_,av0,hva⟩:=hca;have hb:=X7 (n:=(lb.length:Int)) (b:=ti.bytes) (has _ zzl);have:=main [] true [] av0 0 (fun _ _=>undef) hva (Nat.le_refl _) (fun n v hm=>by simp at hm) (by simp) (fun i j t' hi=>by simp at hi) (.inl ⟨rfl,rfl⟩) (by simpa using hb.2.1) (by simpa using hb.2.2.1) (nb'||iV P e) (fun h=>⟨rfl,h⟩);simpa using this
  · rename_i ea i _;obtain⟨m6,h11⟩:=zzf h10;cases hh:s.getH i with
    |none=>rw[hh]at h11;exact(zzb h11).elim
    |some hx =>
      rw[hh]at h11;obtain⟨_,m7,h12,h13⟩:=zza h11;have hg:=zzd h12;simp only[zzj,Bool.not_eq_true']at hg;obtain⟨⟨hfz,hea⟩,heh⟩:=hg;have hea:=AG.1 hea;have heh:=AG.1 heh;have hr:=zzc h13;simp only[Prod.mk.injEq]at hr;obtain⟨rfl,rfl,rfl⟩:=hr;have hb:=X7 (n:=((hx.l++lb).length:Int)) (b:=ti.bytes) (has _ zzl);obtain⟨⟨te,hte,_⟩,hk⟩:=hca;obtain⟨hee,ho⟩:=hk hx hh
      rcases hs.M.H i hx hh with⟨t1,ts1,ht1,hts1,hrl1,hm1⟩|hM
      case inr=>exact(hM.noSl (by rw[hee];exact hte)).elim
      rw[←heh,hts]at hts1;cases hts1;have hpre:PreOK s [(i,(none:Option (HEnt (std E N))))]:=fun n v hm=>by
        simp only[List.mem_singleton,Prod.mk.injEq]at hm;exact .inl hm.2
      rcases ho with⟨blk,cap,hsi,hva⟩|⟨hsi,hz,av0,hva⟩
      · rcases hm1 with⟨hn,_⟩|⟨blk',cap',cells,el,hs',hheap,hel,hsz1,hcap1,hnw1,u1,hu1,hrep1⟩
        · rw[hn]at hsi;cases hsi
        rw[hs']at hsi;cases hsi;subst hel;exact main [(i,none)] hx.nw hx.l _ cap u1 hva hcap1 hpre hrl1 hrep1
          (.inr ⟨blk,cells,i,hx,rfl,by rw[heh];exact hheap,hsz1,hu1,hh,hfz,hs',rfl,hnw1⟩) hb.2.1 hb.2.2.1 _ (fun h=>by simpa using h)
      have hl0:hx.l=[]:=List.length_eq_zero_iff.1 hz;exact main [(i,none)] hx.nw hx.l av0 0 (fun _ _=>undef) (by rw[hva,hl0];rfl) (by rw[hl0];exact Nat.le_refl _) hpre hrl1 (fun i j t' hi=>by rw[hl0]at hi;simp at hi)
        (.inl ⟨hl0,rfl⟩) hb.2.1 hb.2.2.1 _ (fun h=>by simpa using h)
  exact(zzb h10).elim
end
section
variable {E:Env} {N:Nat} {P:Program} {n0:Nz} {nt:Nat} {β:Nat→Option Nat} {σ:Nat→Option (Nat×Nat)} {s s':St0 E N} {a:Act} {w w':World}
theorem vY (hs:Sim P n0 nt β σ s a w) {ctx:List (Nat×Bool)} (hf:Facts a ctx) {id:Nat} (hid:Fresh a s id) {o:Oper} {src dst:TypeId} {x:Operand}
    (hop:o.op=.convert src dst x) {as:List Bool} {r:AC0 E N} {wr:Wr (std E N)} {m m':Nat} (h:RM.run s (KA P ctx id (.convert src dst x)) m=.ok ((as,r,wr),m')) :
    Qy P n0 β σ s a w o id r wr:=by
  simp only[KA]at h;obtain⟨c,m1,h1,h2⟩:=zza h;obtain⟨hc,_,_⟩:=Ci hs hf h1
  split at h2
  case h_2=>trivial
  rename_i e str hus hdst _
  split at h2
  case h_2=>trivial
  rename_i t he hts
  split at h2
  case h_2=>trivial
  rename_i ht hlp;have hr:=zzc h2;simp only[Prod.mk.injEq]at hr;obtain⟨rfl,rfl,rfl⟩:=hr;have hs1:=Xw hus;simp only[zzj,Bool.not_eq_true']at hlp;have hd1:=tz hdst (A7.1 hlp.1) hlp.2;have he1:=fC he;have hrun:=run_bytes_of_string (P:=P) w src dst e str hs1 hd1 he1;have hge:=grownCap_ge w str.size 0 e;generalize hcap:grownCap w str.size 0 e=cap at hrun hge;have g:Grow w (w.drew.alloc (.cells (bytesRow str cap) e ((bytesRow str cap).size,(bytesRow str cap).size+1))):=(Grow.drew w).trans (Grow.alloc _ _);have gB:=fun n=>State.getB_apply0 s ({}:Wr (std E N)) rfl n
  have gH:=fun n=>State.getH_apply0 s ({}:Wr (std E N)) rfl n
  have sub:Sub s (s.apply ({}:Wr (std E N))):=Sub.of_same gB gH;have hnew:(w.drew.alloc (.cells (bytesRow str cap) e ((bytesRow str cap).size,(bytesRow str cap).size+1))).heap[w.heap.size]?=some (.cells (bytesRow str cap) e ((bytesRow str cap).size,(bytesRow str cap).size+1)):=M6 w.drew _;refine⟨_,β,σ,_,OL (x:=convert src dst (a.eval x)) (by simp[execOp,hop]) (by rw[show a.eval x=.string str from hc];exact hrun),sub.mem (hs.M.grow g),?_,⟨fun n hf _=>?_,fun n b hb _=>by trivial,fun n b hb _=>by trivial⟩,?_,fun n _ _=>by simp[AC.names],rfl⟩
  · exact((g.ext P n0 (·=id) β σ s).trans (sub.ext P n0 (·=id) β σ _)).weaken (fun n h=>h.elim (fun h=>h) (fun h=>h))
  · trivial
  refine⟨dst,hdst,.sl (fun i _=>.int .u8 ((str.data.toList.getD i 0).toNat:Int)) hdst hts (by simp[HP]) (fun r hr=>?_) hge (.inr ⟨⟨w.heap.size,true⟩,0,rfl,⟨fun hm=>?_,Old.new hs.n0le⟩,⟨Ff hnew,fun _=>⟨fun k _ hk=>?_,fun c e' he'=>by simp_all⟩⟩,fun i j hi hj=>?_⟩) (fun i j t' hi hj=>?_)⟩
  · obtain⟨b,_,rfl⟩:=List.mem_map.1 hr;rfl
  · rcases hm with⟨b,e1,he1,hb⟩|⟨i,h1,cap1,hh,_,hb⟩
    · have hb:β b=some w.heap.size:=hb;rw[gB]at he1;have:=hs.M.ltB he1 hb;omega
    have hb:σ i=some (w.heap.size,cap1):=hb;rw[gH]at hh;have:=hs.M.ltH hh hb;omega
  · have hk:k<0+str.size*1:=hk;have hz:str.size≤(bytesRow str cap).size:=by unfold bytesRow;simp_all
    unfold World.frozen?
    grind
  · rw[Du hnew];have hj0:j=0:=by simp_all
    subst hj0;have hi':i<str.data.size:=hi;have hi2:i<(str.data.map (fun b=>Value.int .u8 b.toNat)).size:=by simp_all
    simp only[Nat.zero_add,List.length_singleton,Nat.mul_one,Nat.add_zero,bytesRow]
    grind
  have hj0:j=0:=by grind
  subst hj0;simp at hj;subst hj;have hi':i<str.data.size:=hi;have:AD (HP str) i 0=.int ((str.data.toList.getD i 0).toNat:Int):=by
    have hi3:i<str.data.toList.length:=by omega
    simp only[AD,AB,AA,HP,List.getD,List.getElem?_map,zzn hi3];rfl
  rw[this];exact .int ht
theorem v8 {t e:TypeId} {v:Value} (h:XR (O:=std E N) P t v=some (.nil e)):v=.slice none 0 0:=by
 unfold XR at h
 grind
theorem ym {T:TypeId} {z:Val (std E N)} {v:Value} {i:TypeInfo} (hz:PA (O:=std E N) P T=some z) (hi:P.info? T=some i) (hiz:i.zero=some v) (hn:Vv z.cs=true) (hr:RelVal P n0 β σ s w z v) (hnm:AH z.cs=[]) :
    RelCs P n0 β σ s w (jM T z.cs) v.cells.toList∧(∀blk,BH blk v.cells T (jM T z.cs))∧AH (jM T z.cs)=[]:=by
  unfold jM
  split
  · rename_i e he;have hc:RC P T v=some z:=by
      unfold PA at hz
      simp_all
    obtain⟨cs,rfl⟩:∃cs,v=.agg cs:=by
      unfold RC at hc
      grind
    simp only[RC]at hc
    split at hc
    case h_2=>cases hc
    rename_i ts hts
    split at hc
    case h_2=>cases hc
    rename_i l hl;cases hc;simp only at he;subst he;obtain⟨h1,_⟩:=hr;have e1:(Value.agg cs).cells=cs:=rfl;rw[e1]at h1⊢;obtain⟨l0⟩:=cs;simp only at h1 hl⊢
    match l0,h1,hl with
    | [a,b],h1,hl =>
      have ha:a=.pointer none:=h1.1;have hb:b=.slice none 0 0:=by
        match ts,hl with
        | [],hl=>trivial
        | [t],hl=>simp only[TA]at hl;simp_all
        |t::t'::r,hl =>
          simp only[TA]at hl
          split at hl
          · rename_i x y h3 h4
            split at h4
            · rename_i x' y' h5 h6;cases h4;simp only[Option.some.injEq,List.cons.injEq]at hl;exact v8 (by rw[h5,hl.2.1])
            cases h4
          cases hl
      subst ha;subst hb;exact⟨⟨rfl,h1.2.1,trivial⟩,fun blk=>⟨rfl,_,_,rfl,.inl rfl,.inl rfl⟩,rfl⟩
    | [],h1,_=>trivial
    | [_],h1,_=>exact h1.2.elim
    |_::_::_::_,h1,_=>exact h1.2.2.elim
  exact⟨hr.1,fun blk=>BH.of_noAny hn,hnm⟩
theorem zS (hs:Sim P n0 nt β σ s a w) {ctx:List (Nat×Bool)} (hf:Facts a ctx) {id:Nat} (hid:Fresh a s id) {o:Oper} {as:List Bool} {r:AC0 E N} {wr:Wr (std E N)} {m m':Nat}
    (h:RM.run s (KA P ctx id o.op) m=.ok ((as,r,wr),m')) (has:∀b∈as,b=true):Qy P n0 β σ s a w o id r wr:=by
  cases hop:o.op with
  |alloc T =>
    rw[hop]at h;simp only[KA]at h
    split at h
    · rename_i z hz;obtain⟨_,m1,h1,h2⟩:=zza h;have hr:=zzc h2;simp only[Prod.mk.injEq]at hr;obtain⟨rfl,rfl,rfl⟩:=hr;obtain⟨ti,v,hi,hiz,hzv,hrz,hnz,hoz⟩:=LW (n0:=n0) (β:=β) (σ:=σ) (s:=s) (w:=w) hz;have hg:=zzd h1;rw[zzj]at hg;obtain⟨q1,q2,q3⟩:=ym hz hi hiz hg.2 hrz hnz;refine pj hs hid (T:=T) q1 (fun n _=>by grind) q2 ?_;refine OL (x:=Instr.alloc T true (.tuple #[])) (by simp[execOp,hop]) ?_;simp[Instr.alloc,hzv,newVar,newRow]
    trivial
  |box T x =>
    rw[hop]at h;simp only[KA]at h;obtain⟨v,m1,h1,h2⟩:=zza h;obtain⟨_,m2,h3,h4⟩:=zza h2;have hr:=zzc h4;simp only[Prod.mk.injEq]at hr;obtain⟨rfl,rfl,rfl⟩:=hr;obtain⟨hv,hn⟩:=Mj hs hf h1;refine pj hs hid (T:=T) hv.1 hn (fun _=>BH.of_noAny (zzd h3)) ?_;refine OL (x:=Instr.box T (a.eval x)) (by simp[execOp,hop]) ?_;rfl
  |buildSlice T len parts=>rw[hop]at h;exact Vq hs hf hid hop h
  |makeSlice T len cap=>rw[hop]at h;exact jo hs hf hid hop h has
  |convert src dst x=>rw[hop]at h;exact vY hs hf hid hop h
  |call c =>
    rw[hop]at h;have hb:c.callee=.builtin .append:=by
      simp only[KA]at h
      split at h
      · omega
      trivial
    exact sT hs hf hid hop hb h has
  |_=>rw[hop]at h;trivial
theorem zF (hs:Sim P n0 nt β σ s a w) {ctx:List (Nat×Bool)} (hf:Facts a ctx) {id:Nat} (hid:Fresh a s id) {o:Oper} {c:AC0 E N} {m m':Nat}
    (h:RM.run s (AAR P ctx id o.op) m=.ok (c,m')):Qy P n0 β σ s a w o id c ({}:Wr (std E N)):=by
  cases hop:o.op with
  |buildSlice T len parts =>
    rw[hop]at h;obtain⟨⟨as,c1,w1⟩,m1,h1,h2⟩:=zza h;obtain⟨z,β',σ',w',r1,r2,r3,r4,r5,r6,r7⟩:=Vq hs hf hid hop h1;simp only at h2
    split at h2
    case h_2=>trivial
    rename_i e q j hh hhs hbs
    split at h2
    case h_2=>trivial
    rename_i hg;have hr:=zzc h2;subst hr;simp only[zzj]at hg;have e1:=AG.1 hg.1;have e2:=AG.1 hg.2.1;have e3:=AG.1 hg.2.2;subst e1 e2 e3;have gH:∀n,(s.apply w1).getH n=if n=j then some hh else s.getH n:=fun n=>by
      show AL (BO s.hp w1.hs) n=_;rw[hhs];show AL (OE s.hp j (some hh)) n=_;rw[BQ];rfl
    have gB:∀n,(s.apply w1).getB n=s.getB n:=fun n=>by
      show AL (BO s.bx w1.bs) n=_;rw[hbs];rfl
    have zB:=fun n=>State.getB_apply0 s ({}:Wr (std E N)) rfl n
    have zH:=fun n=>State.getH_apply0 s ({}:Wr (std E N)) rfl n
    have nq:∀n h,s.getH n=some h→n≠j:=fun n h hn e=>hid.h n h hn e.symm
    have sub:Sub (s.apply w1) (s.apply ({}:Wr (std E N))):=⟨fun n e' he=>⟨e',by simp_all,rfl⟩,fun n h' he=>by
      simp_all⟩
    have hget:(s.apply w1).getH j=some hh:=by simp_all
    let fr:List (Nat×Option (HEnt (std E N))):=[(j,some { hh with frozen:=true,dirty:=true })]
    have run:RM.run (s.apply w1) (kJ (O:=std E N) (AC.own hh.e j)) 0=.ok ((.rows hh.l,fr,hh.nw),0 ||| C7 (3*j+2)):=by
      show RM.run (s.apply w1) (RM.h j _) 0=_;simp only[RM.run];rw[hget];rfl
    obtain⟨k1,k2,k3⟩:=XD r2 r5 run;have sf:=k1.sub (wr:=({ hs:=fr }:Wr (std E N))) rfl rfl;have sfH:∀n,((s.apply w1).apply ({ hs:=fr }:Wr (std E N))).getH n=if n=j then some { hh with frozen:=true,dirty:=true }else s.getH n:=fun n=>by
      show AL (OE (s.apply w1).hp j (some { hh with frozen:=true,dirty:=true })) n=_;rw[BQ]
      by_cases e:n=j
      · simp_all
      rw[if_neg e,if_neg e];have:=gH n;rw[if_neg e]at this;exact this
    have r5':=r5;obtain⟨⟨t0,ht0,_⟩,_⟩:=r5';have rep:=k3 t0 _ (by rw[ht0];exact AG.2 rfl) sf (fun x hx h hn=>by
      grind) (fun x hx=>by
      grind) hh.nw (fun h=>h)
    have inc:∀b,InM β' σ' (s.apply ({}:Wr (std E N))) b→InM β' σ' ((s.apply w1).apply ({ hs:=fr }:Wr (std E N))) b:=fun b hb=>by
      rcases hb with⟨n,e,he,hb⟩|⟨n,h,cap,he,hfz,hb⟩
      · exact .inl ⟨n,e,by
          rw[zB]at he;show AL (BO (s.apply w1).bx []) n=_;exact(gB n).trans he,hb⟩
      rw[zH]at he;exact .inr ⟨n,h,cap,by simp_all,hfz,hb⟩
    refine⟨z,β',σ',w',r1,sub.mem r2,(r3.trans (sub.ext P n0 (fun _=>False) β' σ' w')).weaken (fun n h=>h.elim (fun h=>h) (fun h=>h.elim)),⟨fun n hf _=>?_,fun n b hb _=>by trivial,fun n b hb _=>by trivial⟩,?_,fun n _ _=>by simp[AC.names],rfl⟩
    · trivial
    exact⟨t0,ht0,rep.st (fun b hb=>⟨fun hm=>hb.1 (inc _ hm),hb.2⟩)⟩
  |_=>rw[hop]at h;trivial
end
section
variable {E:Env} {N:Nat} {P:Program} {n0:Nz} {nt:Nat} {β:Nat→Option Nat} {σ:Nat→Option (Nat×Nat)} {s s':St0 E N} {a:Act} {w w':World}
theorem U9 {cs r cs':List (AC0 E N)} {off n:Nat} (h:D1 cs off r=some cs') (hn:n∈AH cs'):n∈AH cs∨n∈AH r:=by
 obtain⟨rfl,_⟩:=GE h;obtain⟨c,hc,hm⟩:=BU.1 hn
 rcases List.mem_append.1 hc with hc|hc
 ·rcases List.mem_append.1 hc with hc|hc
  ·exact .inl (BU.2 ⟨c,List.mem_of_mem_take hc,hm⟩)
  exact .inr (BU.2 ⟨c,hc,hm⟩)
 exact .inl (BU.2 ⟨c,List.mem_of_mem_drop hc,hm⟩)
theorem ta (m:Mem P n0 β σ s w) {b:Nat} {e:BEnt (std E N)} {blk:Nat} {cells:Array Value} {el:TypeId} (he:s.getB b=some e) (hb:β b=some blk) (hheap:w.heap[blk]?=some (.cells cells el (0,0)))
    {cs':List (AC0 E N)} {cells':Array Value} (hr:RelCs P n0 β σ s w cs' cells'.toList) (hcn:∀n,Fresh a s n→n∉AH cs') (hbh:BH blk cells' el cs') {wr:Wr (std E N)} (ht0:wr.ts=[]) (hbs:wr.bs=[(b,some { cs:=cs',dirty:=true })]) (hhs:wr.hs=[]) :
    Mem P n0 β σ (s.apply wr) (w.setRow blk cells')∧Ext P n0 (fun _=>False) β σ s w β σ (s.apply wr) (w.setRow blk cells')∧Tidy a (fun _=>False) s (s.apply wr):=by
  have gB:=fun n=>State.getB_apply1 s b (some { cs:=cs',dirty:=true }) wr hbs n
  have gH:=fun n=>State.getH_apply0 s wr hhs n
  have hin:InM β σ s blk:=.inl ⟨b,e,he,hb⟩;have hB:∀n e',(s.apply wr).getB n=some e'→∃e0,s.getB n=some e0:=fun n e' h=>by
    grind
  have oth:∀k,k≠blk→(w.setRow blk cells').heap[k]?=w.heap[k]?:=fun k hk=>setRow_other w blk k _ hk
  have x:Ext P n0 (fun _=>False) β σ s w β σ (s.apply wr) (w.setRow blk cells'):=by
    refine⟨rfl,rfl,rfl,by simp,fun k hk hm=>.inl (oth k (fun h=>hm (h▸hin))),fun k hk=>.inl ?_,fun n e' h _=>⟨hB n e' h,rfl⟩,fun n h hh _=>by simp_all⟩
    rcases hk with⟨n,e',h,hb'⟩|⟨i,h,cap,hh,hf,hs⟩
    · obtain⟨e0,h0⟩:=hB n e' h;exact .inl ⟨n,e0,h0,hb'⟩
    rw[gH]at hh;exact .inr ⟨i,h,cap,hh,hf,hs⟩
  refine⟨⟨fun n e' h=>?_,fun i h hh=>?_,fun n n' e1 e2 k h1 h2=>?_,fun i i' h h' k c c' h1 h2=>?_,fun n e1 i h k c h1 h2 h3 h4=>?_⟩,x,⟨fun n hf _=>?_,fun n e' h hd=>?_,fun n e' h hd=>by simp_all⟩⟩
  · rw[gB]at h
    by_cases hn:n=b
    · rw[if_pos hn]at h;cases h;exact⟨blk,cells',el,by simp_all,setRow_heap w blk cells _ _ _ hheap,x.relCs (fun _ _=>id) hr,hbh⟩
    rw[if_neg hn]at h;obtain⟨k,c1,el1,hk,hh,hr1,hbh1⟩:=m.B n e' h;exact⟨k,c1,el1,hk,(oth k (fun e2=>hn (m.uB n b e' e blk h he (e2▸hk) hb))).trans hh,x.relCs (fun _ _=>id) hr1,hbh1⟩
  · rw[gH]at hh
    rcases m.H i h hh with⟨t,ts,ht,hts,hrl,hm⟩|hM
    case inr=>exact .inr (hM.view rfl rfl rfl (fun k cap hs=>oth k (fun e2=>m.uX b e i h blk cap he hh hb (e2▸hs))) (fun _ _ _ ho=>ho))
    refine .inl ⟨t,ts,ht,hts,hrl,?_⟩
    rcases hm with hm|⟨k,cap,c1,el1,hs,hheap1,hel,hsz,hcap,hnw,v,hv,hrep⟩
    · grind
    exact .inr ⟨k,cap,c1,el1,hs,(oth k (fun e2=>m.uX b e i h blk cap he hh hb (e2▸hs))).trans hheap1,hel,hsz,hcap,hnw,v,hv,fun q j t' hq hj=>x.rep (hrep q j t' hq hj)⟩
  · obtain⟨e3,h3⟩:=hB n e1 h1;obtain⟨e4,h4⟩:=hB n' e2 h2;exact fun h5 h6=>m.uB n n' e3 e4 k h3 h4 h5 h6
  · rw[gH]at h1 h2;exact m.uH i i' h h' k c c' h1 h2
  · obtain⟨e3,h5⟩:=hB n e1 h1;rw[gH]at h2;exact m.uX n e3 i h k c h5 h2 h3 h4
  · refine⟨fun k tv hk=>?_,fun k e1 he1=>?_,fun k h hk=>?_⟩
    · rw[State.getT_apply0 s wr ht0]at hk;exact hf.t k tv hk
    · rw[gB]at he1
      by_cases hk:k=b
      · rw[if_pos hk]at he1;cases he1;exact⟨by rw[hk];exact(hf.b b e he).1,hcn n hf⟩
      rw[if_neg hk]at he1;exact hf.b k e1 he1
    rw[gH]at hk;exact hf.h k h hk
  grind
def Pr (cells:Array Value) (o:Nat) (us:List Value):Array Value:=(cells.toList.take o++us++cells.toList.drop (o+us.length)).toArray
theorem mt {cells:Array Value} {o:Nat} {us:List Value} (h:o+us.length≤cells.size):(Pr cells o us).size=cells.size:=by
 simp only[Pr,List.size_toArray,List.length_append,List.length_take,List.length_drop,Array.length_toList];omega
theorem pZ {cells:Array Value} {o:Nat} {us:List Value} (h:o+us.length≤cells.size) (j:Nat):(Pr cells o us)[j]?=if o≤j∧j<o+us.length then us[j-o]? else cells[j]?:=by
 have hl:(cells.toList.take o).length=o:=by grind
 simp only[Pr,List.getElem?_toArray,List.append_assoc]
 grind
theorem pB {T:TypeId} (h:0<P.cellsOf T):∃ti,P.info? T=some ti∧ti.size=P.cellsOf T:=by
 unfold Program.cellsOf at h⊢;cases hi:P.info? T with
 |none=>simp_all
 |some ti=>simp_all
theorem Ps {T:TypeId} {blk o:Nat} {cells:Array Value} {el:TypeId} {x:Value} {us:List Value} (hx:x.cells.toList=us) (hlen:us.length=P.cellsOf T) (hpos:0<us.length)
    (hheap:w.heap[blk]?=some (.cells cells el (0,0))) (hfit:o+us.length≤cells.size) (hone:∀v∈us,v.oneCell'=true) :
    (Instr.storeAt T (.pointer (some ⟨blk,o,none⟩)) x).run P w=.ok () (w.setRow blk (Pr cells o us)):=by
  obtain⟨ti,hi,hsz⟩:=pB (P:=P) (T:=T) (by omega);have hst:=run_storeCells_at (P:=P) blk o el us 0 cells w hheap (by omega) hone;have hcs:x.cells.size=ti.size:=by grind
  simp only[Nat.add_zero]at hst;simp[Instr.storeAt,Instr.sureAddr,storeVar,sizeOf,typeInfo,hi,hcs,hx,hst,Pr,List.append_assoc]<;>simp[List.append_assoc]at hst<;>exact hst
theorem ACP {α:Type} {l:List α} {o n m:Nat} (h:o+m≤l.length) (hn:n=m):l.take o++(l.drop o).take n++l.drop (o+((l.drop o).take n).length)=l:=by
 have:((l.drop o).take n).length=n:=by grind
 rw[this,List.append_assoc,←List.drop_drop,List.take_append_drop,List.take_append_drop]
theorem fi {off sz inner:Nat} {i:Int} {v:List (AC0 E N)} {us:List Value} (hv:RelCs P n0 β σ s w v us) (hpos:0<v.length) (h0:0≤i):∀ {k:Nat} {cs cs':List (AC0 E N)} {vs:List Value},ru (O:=std E N) off sz inner i v k cs=some cs'→RelCs P n0 β σ s w cs vs →
    RelCs P n0 β σ s w cs' (if i<(k:Int)then vs.take (off+i.toNat*sz+inner)++us++vs.drop (off+i.toNat*sz+inner+us.length)else vs)∧(∀n,n∈AH cs'→n∈AH cs)∧(i<(k:Int)→off+i.toNat*sz+inner+us.length≤vs.length)
  |0,cs,cs',vs,h,hc=>by
    simp only[ru]at h;grind
  |k+1,cs,cs',vs,h,hc=>by
    simp only[ru]at h
    split at h
    · cases h
    rename_i old hold
    split at h
    · cases h
    rename_i new hnew
    split at h
    · cases h
    rename_i cs1 hrep;obtain⟨ho1,ho2⟩:=DM hold;have hlv:=RelCs.length hv;have hlc:=RelCs.length hc;have hnames:∀n,n∈AH cs1→n∈AH cs:=fun n hn=>by
      rcases U9 hrep hn with h|h
      · exact h
      rw[Mk hnew]at h;simp at h
    have hfit:off+k*sz+inner+us.length≤vs.length:=by
      grind
    by_cases hik:i=(k:Int)
    · have hb:(i==(k:Int))=true:=by simp[hik]
      have hi2:i.toNat=k:=by omega
      have h1:=Jk (vs:=us) hnew (fun _=>hv) (fun h=>by simp_all);have h2:=Ml hrep hc h1.1;obtain⟨r1,r2,r3⟩:=fi hv hpos h0 h h2
      grind
    have hb:(i==(k:Int))=false:=by simp[hik]
    have h1:=Jk (vs:=(vs.drop (off+k*sz+inner)).take v.length) hnew (fun h=>by rw[hb]at h;cases h) (fun _=>by rw[ho1];exact RelCs.take _ (RelCs.drop _ hc));have h2:=Ml hrep hc h1.1;rw[ACP hfit hlv]at h2;obtain⟨r1,r2,r3⟩:=fi hv hpos h0 h h2
    grind
theorem Y1:∀(ps:List PV) (r:List PV) (off:Nat),(putRow r off ps).length=r.length
 | [],r,off=>rfl
 |p::ps,r,off=>by simp[putRow,Y1 ps]
theorem gV:∀(ps:List PV) (r:List PV) (off j:Nat),off+ps.length≤r.length→(putRow r off ps)[j]?=if off≤j∧j<off+ps.length then ps[j-off]? else r[j]?
 | [],r,off,j,_=>by
  have:¬(off≤j∧j<off+([]:List PV).length):=by simp
  rw[if_neg this];rfl
 |p::ps,r,off,j,h=>by
  simp only[List.length_cons]at h;simp only[putRow];rw[gV ps (r.set off p) (off+1) j (by simp;omega)]
  grind
theorem EX {α:Type} {k:Nat}:∀{ws:List (Nat×Option α)} {l:List (Nat×α)},k∉ws.map (·.1)→AL (BO l ws) k=AL l k
 | [],l,_=>rfl
 |(n,v)::ws,l,h=>by
  simp only[List.map_cons,List.mem_cons,not_or]at h;simp only[BO];rw[EX h.2,BQ,if_neg h.1]
theorem yn {l:Rows} {i i' j:Nat} {r:List PV} (hi:i<l.length):AD (l.set i r) i' j=if i'=i then AA r j else AD l i' j:=by
 unfold AD AB
 grind
theorem vl {ps r:List PV} {off j:Nat} (h:off+ps.length≤r.length):AA (putRow r off ps) j=if off≤j∧j<off+ps.length then AA ps (j-off)else AA r j:=by
 unfold AA;simp only[List.getD];rw[gV ps r off j h]
 grind
theorem ux (hn0:n0.n≤w.heap.size) (m:Mem P n0 β σ s w) {T:TypeId} {p:AC0 E N} {pv x:Value} {v:List (AC0 E N)} {wr:Wr (std E N)} {k k':Nat} (hp:RelC P n0 β σ s w p pv) (hv:RelCs P n0 β σ s w v x.cells.toList)
    (hvn:∀n,Fresh a s n→n∉AH v) (h:RM.run s (uU P T v p) k=.ok (wr,k')) :
    ∃w',(Instr.storeAt T pv x).run P w=.ok () w'∧Mem P n0 β σ (s.apply wr) w'∧Ext P n0 (fun _=>False) β σ s w β σ (s.apply wr) w'∧Tidy a (fun _=>False) s (s.apply wr)∧wr.ts=[]:=by
  have hlv:=RelCs.length hv;have hone:=RelCs.one hv;cases p with
  |ptr b off =>
    obtain⟨k1,h⟩:=zzg h;cases he:s.getB b with
    |none=>rw[he]at h;trivial
    |some e =>
      rw[he]at h;obtain⟨_,k2,h1,h2⟩:=zza h;obtain⟨cs,k3,h3,h4⟩:=zza h2;obtain⟨_,k4,hna,h4⟩:=zza h4;have hna:=zzd hna;cases zzc h4;have hg:=zzd h1;simp only[zzj]at hg;have hlen:=AG.1 hg.1;have hpos:0<v.length:=Nat.le_of_ble_eq_true hg.2;have hrep:=zzh h3;obtain⟨blk,rfl,hbk⟩:=hp;have hb:=hbk e he;obtain⟨blk',cells,el,hb',hheap,hrc,_⟩:=m.B b e he;rw[hb]at hb';cases hb';have hfit:off+x.cells.toList.length≤cells.size:=by
        have h1:=RelCs.length hrc
        rcases(GE hrep).2 with h|h
        · simp_all
        simp_all
      have hr:=Ml hrep hrc hv;obtain⟨q1,q2,q3⟩:=ta m he hb hheap (cs':=cs) (cells':=Pr cells off x.cells.toList) (by trivial)
        (fun n hn hm=>(U9 hrep hm).elim (hn.b b e he).2 (hvn n hn)) (BH.of_noAny hna) (wr:={ bs:=[(b,some { cs,dirty:=true })] }) rfl rfl rfl
      exact⟨_,Ps rfl (by omega) (by omega) hheap hfit hone,q1,q2,q3,rfl⟩
  |aptr b off n sz i inner =>
    obtain⟨k1,h⟩:=zzg h;cases he:s.getB b with
    |none=>rw[he]at h;trivial
    |some e =>
      rw[he]at h;obtain⟨_,k2,h1,h2⟩:=zza h;obtain⟨cs,k3,h3,h4⟩:=zza h2;obtain⟨_,k4,hna,h4⟩:=zza h4;have hna:=zzd hna;cases zzc h4;have hg:=zzd h1;simp only[zzj]at hg;have hlen:=AG.1 hg.1;have hpos:0<v.length:=Nat.le_of_ble_eq_true hg.2;have hrep:=zzh h3;obtain⟨h0,hi,blk,rfl,hbk⟩:=hp;have hb:=hbk e he;obtain⟨blk',cells,el,hb',hheap,hrc,_⟩:=m.B b e he;rw[hb]at hb';cases hb';obtain⟨r1,r2,r3⟩:=fi hv hpos h0 hrep hrc;rw[if_pos hi]at r1;have hfit:=r3 hi;rw[Array.length_toList]at hfit;obtain⟨q1,q2,q3⟩:=ta m he hb hheap (cs':=cs) (cells':=Pr cells _ x.cells.toList) (by trivial)
        (fun n hn hm=>(hn.b b e he).2 (r2 n hm)) (BH.of_noAny hna) (wr:={ bs:=[(b,some { cs,dirty:=true })] }) rfl rfl rfl
      exact⟨_,Ps rfl (by omega) (by omega) hheap hfit hone,q1,q2,q3,rfl⟩
  |eptr id i off =>
    obtain⟨k1,h⟩:=zzf h;cases hh:s.getH id with
    |none=>rw[hh]at h;trivial
    |some en =>
      rw[hh]at h;obtain⟨_,k2,h1,h2⟩:=zza h;have hfz:en.frozen=false:=by simpa using zzd h1
      split at h2
      case h_2=>trivial
      rename_i tsT hfits;obtain⟨_,k3,h3,h4⟩:=zza h2;obtain⟨⟨ls,fr,nw⟩,k4,h5,h6⟩:=zza h4;obtain⟨_,k5,h7,h8⟩:=zza h6;cases zzc h8;have hg3:=zzd h3;simp only[zzj]at hg3;have hl1:=AG.1 hg3.1;have hl2:=AG.1 hg3.2;have hg7:=zzd h7;simp only[zzj,Bool.not_eq_true']at hg7;obtain⟨hkind,hnot⟩:=hg7;obtain⟨le,hle,hT,htake⟩:=YZ hfits;obtain⟨i,rfl⟩:∃j:Int,j=i:=⟨i,rfl⟩;obtain⟨h0,blk,o,hpv,hk⟩:=hp;subst hpv;obtain⟨hi,ts,cap,hts,hs,hcp,ho⟩:=hk en hh;rw[hle]at hts;cases hts;subst ho;obtain⟨hTsz,hTpos⟩:=CL hT
      rcases m.H id en hh with⟨t,ts2,ht,hts2,hrl,hm⟩|hM
      case inr=>exact(hM.noCap hs hcp.1).elim
      rw[hle]at hts2;cases hts2
      rcases hm with⟨hn,_⟩|⟨blk',cap',cells,el,hs',hheap,hel,hsz,hcap,hnw,u,hu,hrep⟩
      · simp_all
      rw[hs]at hs';cases hs';have hoff:off+tsT.length≤le.length:=by
        have:=congrArg List.length htake;rw[List.length_take,List.length_drop]at this;omega
      have hi2:(i:Int)<((en.l.length:Nat):Int):=hi;have h02:(0:Int)≤i:=h0;have hiN:i.toNat<en.l.length:=by omega
      have hfit0:i.toNat*le.length+le.length≤cap*le.length:=by
        have:(i.toNat+1)*le.length≤cap*le.length:=Nat.mul_le_mul_right _ (by omega)
        rwa[Nat.add_mul,Nat.one_mul]at this
      have hus:x.cells.toList.length=tsT.length:=by omega
      have hfit:i.toNat*le.length+off+x.cells.toList.length≤cells.size:=by omega
      obtain⟨f1,f2,f3,f4⟩:=T6 m hv h5
      let hnew:HEnt (std E N):={ en with l:=en.l.set i.toNat (putRow (AB en.l i.toNat) off (ls.map Leaf.pv)),nw:=en.nw&&nw,dirty:=true }
      let wr:Wr (std E N):={ hs:=fr++[(id,some hnew)] }
      let s1:=s.apply ({ hs:=fr }:Wr (std E N))
      let w2:=w.setRow blk (Pr cells (i.toNat*le.length+off) x.cells.toList)
      have gB:=fun n=>State.getB_apply0 s wr rfl n
      have gs:∀n,(s.apply wr).getH n=if n=id then some hnew else s1.getH n:=fun n=>by
        show AL (BO s.hp (fr++[(id,some hnew)])) n=_;rw[FC];simp only[BO];exact BQ _ _ _ _
      have hget:(s.apply wr).getH id=some hnew:=by simp_all
      have fget:∀n h',n≠id→(s.apply wr).getH n=some h'→∃h0,s.getH n=some h0∧(h'=h0∨h'={ h0 with frozen:=true,dirty:=true }):=fun n h' hn he=>by
        rw[gs,if_neg hn]at he;exact f1.pre.get rfl n h' he
      have hin:InM β σ s blk:=.inr ⟨id,en,cap,hh,hfz,hs⟩;have oth:∀q,q≠blk→w2.heap[q]?=w.heap[q]?:=fun q hq=>setRow_other w blk q _ hq
      have x0:Ext P n0 (fun _=>False) β σ s w β σ (s.apply wr) w2:=by
        refine⟨rfl,rfl,rfl,by simp[w2],fun q _ hm=>.inl (oth q (fun e=>hm (e▸hin))),fun q hq=>.inl ?_,fun n e he _=>?_,fun n h' he _=>?_⟩
        · rcases hq with⟨n,e,he,hb⟩|⟨n,e,cap',he,hfz',hb⟩
          · rw[gB]at he;exact .inl ⟨n,e,he,hb⟩
          by_cases hid:n=id
          · simp_all
          obtain⟨h0,hh0,h1⟩:=fget n e hid he
          rcases h1 with rfl|rfl
          · exact .inr ⟨n,e,cap',hh0,hfz',hb⟩
          trivial
        · simp_all
        by_cases hid:n=id
        · subst hid;rw[hget]at he;cases he;exact⟨en,hh,rfl,rfl,by simp[hnew]⟩
        obtain⟨h0,hh0,h1⟩:=fget n h' hid he;refine⟨h0,hh0,rfl,?_⟩
        rcases h1 with rfl|rfl<;>exact⟨rfl,fun _=>rfl⟩
      have hs1:s1.getH id=some en:=by
        show AL (BO s.hp fr) id=some en;rw[EX (fun hm=>by rw[Cd.2 hm]at hnot;cases hnot)];exact hh
      have x1:Ext P n0 (fun _=>False) β σ s1 w β σ (s.apply wr) w2:=by
        have hin1:InM β σ s1 blk:=.inr ⟨id,en,cap,hs1,hfz,hs⟩;refine⟨rfl,rfl,rfl,by simp[w2],fun q _ hm=>.inl (oth q (fun e=>hm (e▸hin1))),fun q hq=>.inl ?_,fun n e he _=>?_,fun n h' he _=>?_⟩
        · rcases hq with⟨n,e,he,hb⟩|⟨n,e,cap',he,hfz',hb⟩
          · rw[gB]at he;exact .inl ⟨n,e,by trivial,hb⟩
          by_cases hid:n=id
          · simp_all
          rw[gs,if_neg hid]at he;exact .inr ⟨n,e,cap',he,hfz',hb⟩
        · rw[gB]at he;exact⟨⟨e,by trivial⟩,rfl⟩
        by_cases hid:n=id
        · subst hid;rw[hget]at he;cases he;exact⟨en,hs1,rfl,rfl,fun _=>by simp[hnew]⟩
        rw[gs,if_neg hid]at he;exact⟨h',he,rfl,rfl,fun _=>rfl⟩
      have hlr:ls.length=tsT.length:=by omega
      have hrow:AB en.l i.toNat∈en.l:=by
        unfold AB;simp_all
      have hrowl:(AB en.l i.toNat).length=le.length:=hrl _ hrow;refine⟨w2,Ps rfl (by omega) (by omega) hheap hfit hone,S7 (id:=id) m x0 (fun n e he=>?_) (fun n e q he hb=>?_) (fun n h' hn he=>?_) (fun n h' q cap' hn he hs=>?_) (fun h' he=>?_) (fun q cap' hq=>?_),x0,
        ⟨fun n hf _=>?_,fun n e he hd=>?_,fun n e he hd=>?_⟩,rfl⟩
      · rw[gB]at he;exact⟨e,he,rfl,fun _ _ h=>h⟩
      · rw[gB]at he;exact oth q (fun e2=>m.uX n e id en blk cap he hh (e2▸hb) hs)
      · obtain⟨h0,hh0,h1⟩:=fget n h' hn he;refine⟨h0,hh0,?_⟩
        rcases h1 with rfl|rfl
        · exact⟨rfl,rfl,rfl,fun h=>h,rfl⟩
        exact⟨rfl,rfl,rfl,(fun h=>by cases h),rfl⟩
      · obtain⟨h0,hh0,_⟩:=fget n h' hn he;exact oth q (fun e2=>hn (m.uH n id h0 en blk cap' cap hh0 hh (e2▸hs) (by assumption)))
      · rw [hget] at he;cases he;refine .inl ⟨t,le,ht,hle,fun r hr=>?_,.inr ⟨blk,cap,Pr cells (i.toNat * le.length+off) x.cells.toList,el,hs,setRow_heap w blk cells _ _ _ hheap,hel,by rw [mt hfit];exact hsz,by simp [hnew];exact hcap,
          hnw.mono (fun h=>by simp[hnew]at h;exact h.1),fun i' j=>if i'=i.toNat∧off≤j∧j<off+tsT.length then x.cells.toList.getD (j-off) undef else u i' j,fun i' j hi' hj=>?_,fun i' j t' hi' hj=>?_⟩⟩
        · rcases List.mem_or_eq_of_mem_set hr with h|h
          · exact hrl r h
          rw[h,Y1];omega
        · have hi3:i'<en.l.length:=by simpa[hnew] using hi'
          rw[pZ hfit];show _=some (if i'=i.toNat∧off≤j∧j<off+tsT.length then x.cells.toList.getD (j-off) undef else u i' j)
          by_cases hc:i'=i.toNat∧off≤j∧j<off+tsT.length
          · obtain⟨rfl,hc1,hc2⟩:=hc;rw[if_pos (by omega)];simp only[hc1,hc2,and_self,if_true];have e1:i.toNat*le.length+j-(i.toNat*le.length+off)=j-off:=by omega
            rw[e1,List.getD,zzn (by omega)];rfl
          rw[if_neg hc,if_neg (fun h=>hc ?_)]
          · simp_all
          rcases Nat.lt_trichotomy i' i.toNat with h1|h1|h1
          · have:(i'+1)*le.length≤i.toNat*le.length:=Nat.mul_le_mul_right _ h1;rw[Nat.add_mul,Nat.one_mul]at this;omega
          · subst h1;exact⟨rfl,by omega,by omega⟩
          have:(i.toNat+1)*le.length≤i'*le.length:=Nat.mul_le_mul_right _ h1;rw[Nat.add_mul,Nat.one_mul]at this;omega
        have hi3:i'<en.l.length:=by simpa[hnew] using hi'
        have hj3:j<le.length:=(List.getElem?_eq_some_iff.1 hj).1;show Rep P w2 (StB n0 β σ (s.apply wr) hnew.nw) t' (if i'=i.toNat∧off≤j∧j<off+tsT.length then x.cells.toList.getD (j-off) undef else u i' j) _;rw[show hnew.l=en.l.set i.toNat (putRow (AB en.l i.toNat) off (ls.map Leaf.pv))from rfl,yn hiN];have hold:∀i',i'<en.l.length→Rep P w2 (StB n0 β σ (s.apply wr) hnew.nw) t' (u i' j) (AD en.l i' j):=fun i' hi' =>
          (x0.rep (hrep i' j t' hi' hj)).st (fun b hb=>⟨hb.1,hb.2.mono (fun h=>by simp[hnew]at h;exact h.1)⟩)
        by_cases hii:i'=i.toNat
        · subst hii;rw[if_pos rfl,vl (by simp_all),List.length_map,hlr]
          by_cases hc:off≤j∧j<off+tsT.length
          · rw [if_pos ⟨rfl,hc⟩,if_pos hc];have hq:tsT[j - off]?=some t':=by
              rw[←htake,List.getElem?_take,if_pos (by omega),List.getElem?_drop,show off+(j-off)=j by omega];exact hj
            refine x1.rep (f4 tsT s1 hkind (f1.sub rfl rfl) (f1.frz rfl) hnew.nw (fun h=>by simp[hnew]at h;exact h.2) (j-off) t' _ hq ?_);rw[List.getD,zzn (by omega)];rfl
          rw[if_neg (fun h=>hc h.2),if_neg hc];exact hold _ hi3
        simp_all
      · rw[hs]at hq;cases hq;refine⟨fun n e he hb=>?_,fun n h' cap'' hn he hs2=>?_⟩
        · rw[gB]at he;exact m.uX n e id en blk cap he hh hb hs
        obtain⟨h0,hh0,_⟩:=fget n h' hn he;exact hn (m.uH n id h0 en blk cap'' cap hh0 hh hs2 hs)
      · refine⟨fun q tv hq=>?_,fun q e he=>?_,fun q e he=>?_⟩
        · rw[State.getT_apply0 s wr rfl]at hq;exact hf.t q tv hq
        · rw[gB]at he;exact hf.b q e he
        by_cases hq:q=id
        · rw[hq];exact hf.h id en hh
        obtain⟨h0,hh0,_⟩:=fget q e hq he;exact hf.h q h0 hh0
      · trivial
      by_cases hq:n=id
      · rw[hq,hget]at he;cases he;cases hd
      obtain⟨h0,hh0,h1⟩:=fget n e hq he
      rcases h1 with rfl|rfl
      · exact hh0
      cases hd
  |_=>trivial
end
def RelArgs {E:Env} {N:Nat} (P:Program) (n0:Nz) (β:Nat→Option Nat) (σ:Nat→Option (Nat×Nat)) (s:St0 E N) (w:World):List (AV (std E N))→List Value→Prop
 | [],[]=>True
 |x::xs,v::vs=>RelAV P n0 β σ s w x v∧RelArgs P n0 β σ s w xs vs
 |_,_=>False
def noB:Nat→Option Nat:=fun _=>none
def Ab {E:Env} {N:Nat} (hs:List (Nat×HEnt (std E N))):St0 E N:=⟨.e,[],hs,0⟩
def Ret {E:Env} {N:Nat} (P:Program) (ci:CI) (n0:Nz) (σ:Nat→Option (Nat×Nat)) (s0:St0 E N) (w:World) (fn:Func) (rs:List PV):Ending→World→Prop
  | .returned v,w'=>w'.os=w.os∧w'.tape=w.tape∧w'.output=w.output∧w.heap.size≤w'.heap.size∧(∀ b,b<w.heap.size→¬ InM noB σ s0 b→w'.heap[b]?=w.heap[b]?) ∧
      ∀q,∃(σ':Nat→Option (Nat×Nat)) (vs:List (Val (std E N))) (hs:List (Nat×HEnt (std E N))),Br (O:=std E N) P ci.ow ci.nw rs 0 q fn.resultTypes.toList=some (vs,hs) ∧
        Mem P n0 noB σ' (Ab hs) w'∧RelAV P n0 noB σ' (Ab hs) w' (LI vs) v∧∀b,InM noB σ' (Ab hs) b→InM noB σ s0 b∨w.heap.size≤b
  |_,_=>False
def Oz (P:Program) (E:Env) (N:Nat) (ci:CI):Prop :=
 ∀fn,P.funcs[ci.f]?=some fn→∀(ls rs:List PV),E ci.f ci.fns ls=some rs→∀(vs:List (AV (std E N))) (hs:List (Nat×HEnt (std E N))),
  BS (O:=std E N) P ci.gives 1 fn.params.toList ci.fns (ls.map PV.leaf)=some (vs,hs)→∀(n0:Nz) (σ:Nat→Option (Nat×Nat)) (w:World) (args:List Value),n0.n=w.heap.size →
  Mem P n0 noB σ (Ab hs) w→RelArgs P n0 noB σ (Ab hs) w vs args→(jh ci.gives=true→∀q,σ q=none)→Kept P n0 noB σ (Ab hs) w→Calls P ci.f args.toArray w (Ret (E:=E) (N:=N) P ci n0 σ (Ab hs) w fn rs)
def VV (P:Program) (E:Env) (N:Nat) (ci:CI):Prop:=∀o k,(o=true→ci.own=true)→Oz P E N { ci with own:=o,sk:=ci.sk++k }
section
variable {E:Env} {N:Nat} {P:Program} {n0 n0':Nz} {nt:Nat} {β β':Nat→Option Nat} {σ σ':Nat→Option (Nat×Nat)} {s s':St0 E N} {a:Act} {w w':World}
theorem RelH.view {id q:Nat} {h0 h1:HEnt (std E N)} (h:RelH P n0 β σ s w id h0) (he:h1.e=h0.e) (hl:h1.l=h0.l) (hs:σ' q=σ id)
    (ho:∀blk cap,σ id=some (blk,cap)→Old n0 h0.nw ⟨blk,true⟩→Old n0' h1.nw ⟨blk,true⟩) (hst:∀b,StB n0 β σ s h0.nw b→b.b<w.heap.size→StB n0' β' σ' s' h1.nw b):RelH P n0' β' σ' s' w q h1:=by
  rcases h with⟨t,ts,ht,hts,hrl,hm⟩|hM
  case inr=>exact .inr (hM.view he hl hs (fun _ _ _=>rfl) ho)
  refine .inl ⟨t,ts,by simp_all,by simp_all,by simp_all,?_⟩
  rcases hm with⟨h1,h2⟩|⟨blk,cap,cells,el,ha,hheap,hel,hc,hd,hnw,v,hv,hrep⟩
  · simp_all
  refine .inr ⟨blk,cap,cells,el,by simp_all,hheap,by simp_all,hc,by simp_all,ho blk cap ha hnw,v,by simp_all,fun i j t' hi hj=>?_⟩;rw[hl]at hi⊢;exact(hrep i j t' hi hj).stL hst
def vq (P:Program) (s:St0 E N) (h':HEnt (std E N)):Option Nat→Prop
 |none=>h'.l=[]∧∃t ts,AK P t=.sl h'.e∧AW P h'.e=some ts
 |some id=>∃h,s.getH id=some h∧h'.e=h.e∧h'.l=h.l∧h.frozen=false∧(h'.nw=true→h.nw=true)
def Ents (P:Program) (s:St0 E N):Nat→List (Option Nat)→List (Nat×HEnt (std E N))→Prop
 |_,[],[]=>True
 |q,o::os,(k,h')::r=>k=q∧h'.frozen=false∧vq P s h' o∧Ents P s (q+1) os r
 |_,_,_=>False
def Wired (σ σc:Nat→Option (Nat×Nat)) (s0:St0 E N):Nat→List (Option Nat)→List (Nat×HEnt (std E N))→Prop
 |q,o::os,(_,h')::r=>σc q=o.bind σ∧s0.getH q=some h'∧Wired σ σc s0 (q+1) os r
 |_,_,_=>True
theorem Ents.len:∀{q:Nat} {os:List (Option Nat)} {r:List (Nat×HEnt (std E N))},Ents P s q os r→os.length=r.length
 |_,[],[],_=>rfl
 |_,_::_,(_,_)::_,h=>by simp[Ents.len h.2.2.2]
 |_,[],_::_,h=>h.elim
 |_,_::_,[],h=>h.elim
theorem Ents.append:∀{q:Nat} {os os':List (Option Nat)} {r r':List (Nat×HEnt (std E N))},Ents P s q os r→Ents P s (q+r.length) os' r'→Ents P s q (os++os') (r++r')
 |_,[],_,[],_,_,h=>by trivial
 |q,o::os,_,(k,h')::r,_,h,h2=>⟨h.1,h.2.1,h.2.2.1,Ents.append h.2.2.2 (by grind)⟩
 |_,[],_,_::_,_,h,_=>h.elim
 |_,_::_,_,[],_,h,_=>h.elim
theorem Wired.left {σc:Nat→Option (Nat×Nat)} {s0:St0 E N}:∀{q:Nat} {os os':List (Option Nat)} {r r':List (Nat×HEnt (std E N))},os.length=r.length→Wired σ σc s0 q (os++os') (r++r')→Wired σ σc s0 q os r
 |_,[],_,[],_,_,_=>trivial
 |q,o::os,_,(k,h')::r,_,hl,h=>⟨h.1,h.2.1,Wired.left (by simp_all) h.2.2⟩
 |_,[],_,_::_,_,hl,_=>by simp at hl
 |_,_::_,_,[],_,hl,_=>by simp at hl
theorem Wired.right {σc:Nat→Option (Nat×Nat)} {s0:St0 E N}:∀{q:Nat} {os os':List (Option Nat)} {r r':List (Nat×HEnt (std E N))},os.length=r.length→Wired σ σc s0 q (os++os') (r++r')→Wired σ σc s0 (q+r.length) os' r'
 |_,[],_,[],_,_,h=>by trivial
 |q,o::os,_,(k,h')::r,_,hl,h=>by
  have:=Wired.right (by simp_all) h.2.2
  grind
 |_,[],_,_::_,_,hl,_=>by simp at hl
 |_,_::_,_,[],_,hl,_=>by simp at hl
theorem mR {σc:Nat→Option (Nat×Nat)} {s0:St0 E N} {q id:Nat} {e:TypeId} {v:Value} {h h':HEnt (std E N)} (hc:RelC P n0 β σ s w (.own e id) v) (hh:s.getH id=some h) (he:h'.e=h.e) (hl:h'.l=h.l)
    (hs:σc q=σ id) (hg:s0.getH q=some h'):RelC P n0' β' σc s0 w' (.own e q) v:=by
  obtain⟨h1,h2⟩:=hc;obtain⟨e1,o1⟩:=h2 h hh;refine⟨h1,fun h3 hh3=>?_⟩;rw[hg]at hh3;cases hh3;refine⟨he.trans e1,?_⟩;unfold qT at o1⊢
  simp_all
theorem Np (m:Mem P n0 β σ s w):∀ {ts:List TypeId} {cs:List (AC0 E N)} {vals:List Value} {used u:List Nat} {ls:List AQ} {k k':Nat},RelCs P n0 β σ s w cs vals→AX P ts cs=true →
    RM.run s (W7 (O:=std E N) used cs) k=.ok ((ls,u),k')→∀(q:Nat) (rest:List AQ),∃(cs':List (AC0 E N)) (nh:List (Nat×HEnt (std E N))) (ids:List (Option Nat)),
      Ak (O:=std E N) P true q ts (ls++rest)=some (cs',nh,rest)∧Ents P s q ids nh∧(∀n∈u,n∈used∨some n∈ids)∧(∀n∈used,n∈u)∧(∀n,some n∈ids→n∈u∧n∉used)∧(ids.filterMap id).Nodup∧(∀p∈nh,p.2.nw=false) ∧
      ∀(n0c:Nz) (σc:Nat→Option (Nat×Nat)) (s0:St0 E N),Wired σ σc s0 q ids nh→RelCs P n0c noB σc s0 w cs' vals
  | [],[],[],used,u,ls,k,k',_,_,h=>by
    cases zzc h;intro q rest;exact⟨[],[],[],rfl,trivial,fun n hn=>.inl hn,fun n hn=>hn,fun n hn=>by simp at hn,List.nodup_nil,fun p hp=>by simp at hp,fun _ _ _ _=>trivial⟩
  |t::ts,c::cs,v::vals,used,u,ls,k,k',hc,hk,h=>by
    simp only[AX]at hk
    split at hk
    case h_2=>cases hk
    rename_i hk1;intro q rest;cases c with
    |int kk i =>
      obtain⟨⟨l,fr,nw⟩,k1,h1,h2⟩:=zza h;obtain⟨⟨ls2,u2⟩,k2,h3,h4⟩:=zza h2;cases zzc h1;cases zzc h4;obtain⟨cs',nh,ids,a1,a2,a3,a4,a5,a6,a8,a7⟩:=Np m hc.2 hk h3 q rest;cases hl:AK P t<;>rw[hl]at hk1<;>simp[BJ]at hk1;have hkk:=He.1 hk1;rw[hkk]at hl;refine⟨.int kk i::cs',nh,ids,by simp[Ak,hl,a1],a2,a3,a4,a5,a6,a8,fun n0c σc s0 hw=>⟨?_,a7 n0c σc s0 hw⟩⟩;have hv:v=.int kk i:=hc.1;exact hv
    |bool b =>
      obtain⟨⟨l,fr,nw⟩,k1,h1,h2⟩:=zza h;obtain⟨⟨ls2,u2⟩,k2,h3,h4⟩:=zza h2;cases zzc h1;cases zzc h4;obtain⟨cs',nh,ids,a1,a2,a3,a4,a5,a6,a8,a7⟩:=Np m hc.2 hk h3 q rest;cases hl:AK P t<;>rw[hl]at hk1<;>simp[BJ]at hk1;refine⟨.bool b::cs',nh,ids,by simp[Ak,hl,a1],a2,a3,a4,a5,a6,a8,fun n0c σc s0 hw=>⟨?_,a7 n0c σc s0 hw⟩⟩;have hv:v=.bool b:=hc.1;exact hv
    |str x =>
      obtain⟨⟨l,fr,nw⟩,k1,h1,h2⟩:=zza h;obtain⟨⟨ls2,u2⟩,k2,h3,h4⟩:=zza h2;cases zzc h1;cases zzc h4;obtain⟨cs',nh,ids,a1,a2,a3,a4,a5,a6,a8,a7⟩:=Np m hc.2 hk h3 q rest;cases hl:AK P t<;>rw[hl]at hk1<;>simp[BJ]at hk1;refine⟨.str x::cs',nh,ids,by simp[Ak,hl,a1],a2,a3,a4,a5,a6,a8,fun n0c σc s0 hw=>⟨?_,a7 n0c σc s0 hw⟩⟩;have hv:v=.string x:=hc.1;exact hv
    |nil e =>
      obtain⟨⟨l,fr,nw⟩,k1,h1,h2⟩:=zza h;obtain⟨⟨ls2,u2⟩,k2,h3,h4⟩:=zza h2;cases zzc h1;cases zzc h4;obtain⟨cs',nh,ids,a1,a2,a3,a4,a5,a6,a8,a7⟩:=Np m hc.2 hk h3 (q+1) rest;cases hl:AK P t<;>rw[hl]at hk1<;>simp[BJ]at hk1;rename_i e2;subst hk1;obtain⟨t0,ts0,ht0,hts0,av,hv⟩:=hc.1;refine⟨.own e2 q::cs',(q,{ e:=e2,frozen:=false,nw:=false,l:=[],dirty:=true })::nh,none::ids,by simp[Ak,hl,a1],⟨rfl,rfl,⟨rfl,t0,ts0,ht0,hts0⟩,a2⟩,fun n hn=>?_,a4,fun n hn=>?_,by trivial,
        fun p hp=>?_,fun n0c σc s0 hw=>⟨⟨⟨t0,ht0,_,_,_,hv⟩,fun h3 hh3=>?_⟩,a7 n0c σc s0 hw.2.2⟩⟩
      · simp_all
      · simp_all
      · grind
      rw[hw.2.1]at hh3;cases hh3;exact⟨rfl,.inr ⟨hw.1,rfl,av,hv⟩⟩
    |own e id =>
      obtain⟨k1,h1⟩:=zzf h;cases hh:s.getH id with
      |none=>rw[hh]at h1;trivial
      |some en =>
        rw[hh]at h1;simp only at h1
        split at h1
        case h_2=>trivial
        rename_i hg;simp only[zzj,Bool.not_eq_true']at hg;obtain⟨⟨ls2,u2⟩,k2,h3,h4⟩:=zza h1;cases zzc h4;obtain⟨cs',nh,ids,a1,a2,a3,a4,a5,a6,a8,a7⟩:=Np m hc.2 hk h3 (q+1) rest;cases hl:AK P t<;>rw[hl]at hk1<;>simp[BJ]at hk1;rename_i e2;subst hk1;have hnu:id∉used:=fun hm=>by have:=Cd.2 hm;simp_all
        obtain⟨hc1,hc2⟩:=hc.1;have he:=(hc2 en hh).1;refine⟨.own e2 q::cs',(q,{ e:=e2,frozen:=false,nw:=false,l:=en.l,dirty:=true })::nh,some id::ids,by simp[Ak,hl,a1],⟨rfl,rfl,⟨en,hh,he.symm,rfl,hg.1,fun h=>by cases h⟩,a2⟩,fun n hn=>?_,fun n hn=>a4 n (zzm _ hn),fun n hn=>?_,?_,
          fun p hp=>?_,fun n0c σc s0 hw=>⟨mR (h':={ e:=e2,frozen:=false,nw:=false,l:=en.l,dirty:=true }) hc.1 hh he.symm rfl hw.1 hw.2.1,a7 n0c σc s0 hw.2.2⟩⟩
        · grind
        · grind
        · grind
        grind
    |opq nw n=>trivial
    |imm e nw l=>trivial
    |_ =>
      trivial
  | [],_::_,_,_,_,_,_,_,_,hk,_=>by trivial
  |_::_,[],_,_,_,_,_,_,_,hk,_=>by trivial
  |_,[],_::_,_,_,_,_,_,hc,_,_=>hc.elim
  |_,_::_,[],_,_,_,_,_,hc,_,_=>hc.elim
theorem mQ (m:Mem P n0 β σ s w):∀ {ts:List TypeId} {cs:List (AC0 E N)} {vals:List Value} {ls:List AQ} {fr:List (Nat×Option (HEnt (std E N)))} {nw:Bool} {k k':Nat},RelCs P n0 β σ s w cs vals→AX P ts cs=true →
    RM.run s (JI (O:=std E N) cs) k=.ok ((ls,fr,nw),k')→∀(q:Nat) (rest:List AQ),FrOK s fr∧(∀x∈fr,x.1∈AH cs)∧∃(cs':List (AC0 E N)),
      Ak (O:=std E N) P false q ts (ls++rest)=some (cs',[],rest) ∧
      ∀(s1:St0 E N) (n0c:Nz) (σc:Nat→Option (Nat×Nat)) (s0:St0 E N),Sub s s1→Frz s1 fr→(∀b,StB n0 β σ s1 false b→b.b<w.heap.size→StB n0c noB σc s0 false b)→RelCs P n0c noB σc s0 w cs' vals
  | [],[],[],ls,fr,nw,k,k',_,_,h=>by
    cases zzc h;intro q rest;exact⟨fun _ _ hm=>by simp at hm,fun _ hm=>by simp at hm,[],rfl,fun _ _ _ _ _ _ _=>trivial⟩
  |t::ts,c::cs,v::vals,ls,fr,nw,k,k',hc,hk,h=>by
    simp only[AX]at hk
    split at hk
    case h_2=>cases hk
    rename_i hk1;intro q rest;obtain⟨⟨l,f1,n1⟩,k1,h1,h2⟩:=zza h;obtain⟨⟨ls2,f2,n2⟩,k2,h3,h4⟩:=zza h2;have hr:=zzc h4;simp only[Prod.mk.injEq]at hr;obtain⟨rfl,rfl,rfl⟩:=hr;obtain⟨a1,a2,a3⟩:=XD m hc.1 h1;obtain⟨b1,b2,cs',b3,b4⟩:=mQ m hc.2 hk h3 q rest;refine⟨a1.append b1,fun x hx=>?_,?_⟩
    · rcases List.mem_append.1 hx with h|h
      · simp[AH,a2 x h]
      simp[AH,b2 x h]
    have rep:∀(s1:St0 E N),Sub s s1→Frz s1 (f1++f2)→Rep P w (StB n0 β σ s1 false) t v l.pv:=fun s1 hs hf =>
      a3 t s1 hk1 hs (fun x hx h hh=>by obtain⟨h',e1,e2⟩:=hf.left x hx;simp_all)
        (fun x hx=>by obtain⟨h',e1,_⟩:=hf.left x hx;simp_all) false (fun e=>by cases e)
    have sl:∀ (e:TypeId) (r:Rows),AK P t=.sl e→l=.rows r→∃ (cs':List (AC0 E N)),
        Ak (O:=std E N) P false q (t::ts) (l::ls2++rest)=some (cs',[],rest) ∧
        ∀(s1:St0 E N) (n0c:Nz) (σc:Nat→Option (Nat×Nat)) (s0:St0 E N),Sub s s1→Frz s1 (f1++f2)→(∀b,StB n0 β σ s1 false b→b.b<w.heap.size→StB n0c noB σc s0 false b)→RelCs P n0c noB σc s0 w cs' (v::vals):=fun e r hl hlr=>by
      subst hlr;exact⟨.imm e false r::cs',by simp[Ak,hl,b3],fun s1 n0c σc s0 hs hf hst=>⟨⟨t,hl,(rep s1 hs hf).stL hst⟩,b4 s1 n0c σc s0 hs hf.right hst⟩⟩
    cases c with
    |int kk i =>
      cases zzc h1;cases hl:AK P t<;>rw[hl]at hk1<;>simp[BJ]at hk1;have hkk:=He.1 hk1;rw[hkk]at hl;have hv:v=.int kk i:=hc.1;exact⟨.int kk i::cs',by simp[Ak,hl,b3],fun s1 n0c σc s0 hs hf hst=>⟨hv,b4 s1 n0c σc s0 hs hf.right hst⟩⟩
    |bool b =>
      cases zzc h1;cases hl:AK P t<;>rw[hl]at hk1<;>simp[BJ]at hk1;have hv:v=.bool b:=hc.1;exact⟨.bool b::cs',by simp[Ak,hl,b3],fun s1 n0c σc s0 hs hf hst=>⟨hv,b4 s1 n0c σc s0 hs hf.right hst⟩⟩
    |str x =>
      cases zzc h1;cases hl:AK P t<;>rw[hl]at hk1<;>simp[BJ]at hk1;have hv:v=.string x:=hc.1;exact⟨.str x::cs',by simp[Ak,hl,b3],fun s1 n0c σc s0 hs hf hst=>⟨hv,b4 s1 n0c σc s0 hs hf.right hst⟩⟩
    |nil e =>
      cases zzc h1;cases hl:AK P t<;>rw[hl]at hk1<;>simp[BJ]at hk1
      simp_all
    |imm e nw l =>
      cases zzc h1;cases hl:AK P t<;>rw[hl]at hk1<;>simp[BJ]at hk1
      simp_all
    |own e id =>
      obtain⟨k1,h1⟩:=zzf h1;cases hh:s.getH id with
      |none=>rw[hh]at h1;trivial
      |some en =>
        rw[hh]at h1;cases zzc h1;cases hl:AK P t<;>rw[hl]at hk1<;>simp[BJ]at hk1
        simp_all
    |opq nw n =>
      cases zzc h1;cases hl:AK P t<;>rw[hl]at hk1<;>simp[BJ]at hk1;exact⟨.opq false n::cs',by simp[Ak,hl,b3],fun s1 n0c σc s0 hs hf hst=>⟨⟨t,hl,(rep s1 hs hf).stL hst⟩,b4 s1 n0c σc s0 hs hf.right hst⟩⟩
    |_=>trivial
  | [],_::_,_,_,_,_,_,_,_,hk,_=>by trivial
  |_::_,[],_,_,_,_,_,_,_,hk,_=>by trivial
  |_,[],_::_,_,_,_,_,_,hc,_,_=>hc.elim
  |_,_::_,[],_,_,_,_,_,hc,_,_=>hc.elim
def fnV (v:Val (std E N)):Option (Nat×List (Cap (std E N))):=match v with
 |⟨false,[.fn f caps]⟩=>some (f,caps)
 |_=>none
theorem qK {v:Val (std E N)} {f:Nat} {caps:List (Cap (std E N))} (h:fnV v=some (f,caps)):v=⟨false,[.fn f caps]⟩:=by
 unfold fnV at h
 grind
def ptV (v:Val (std E N)):Option (Nat×Nat):=match v with
 |⟨false,[.ptr b off]⟩=>some (b,off)
 |_=>none
theorem qN {v:Val (std E N)} {b off:Nat} (h:ptV v=some (b,off)):v=⟨false,[.ptr b off]⟩:=by
 unfold ptV at h
 grind
theorem ma {gv:List Bool} {pt:List TypeId} {used:List Nat} {v:Val (std E N)} {r:List (AV (std E N))} (h:fnV v=none) (hp:ptV v=none):Mr P gv pt used (.val v::r)=match gv.headD false with
    |true=>(W7 used v.cs).bind fun (ls,u)=>(Mr P gv.tail pt.tail u r).bind fun (ls',fr,u')=>.ret (ls++ls',fr,u')
    |false=>(JI v.cs).bind fun (ls,fr,_)=>(Mr P gv.tail pt.tail used r).bind fun (ls',fr',u')=>.ret (ls++ls',fr++fr',u'):=by
  rcases v with⟨_|_,_|⟨c,_|⟨d,l⟩⟩⟩<;>try rfl
  · cases c<;>first|rfl|(cases h;done)|(cases hp;done)
  cases c<;>rfl
theorem wA {v:Val (std E N)} {r:List (AV (std E N))} (h:fnV v=none) (hp:ptV v=none):IV (.val v::r)=match v.cs.all xt with
    |true=>IV r
    |false=>none:=by
  rcases v with⟨_|_,_|⟨c,_|⟨d,l⟩⟩⟩<;>try rfl
  · cases c<;>first|rfl|(cases h;done)|(cases hp;done)
  cases c<;>rfl
theorem gS {v:Val (std E N)} {r:List (AV (std E N))} (h:fnV v=none) (hp:ptV v=none):UG (.val v::r)=UG r:=by
 rcases v with⟨_|_,_|⟨c,_|⟨d,l⟩⟩⟩<;>try rfl
 ·cases c<;>first|rfl|(cases h;done)|(cases hp;done)
 cases c with
 |fn f caps=>cases caps<;>rfl
 |_=>rfl
theorem vu {t:TypeId} {ts:List TypeId} {v:Val (std E N)} {r:List (AV (std E N))} (h:fnV v=none) (hp:ptV v=none) (ha:Gw P (t::ts) (.val v::r)=true) :
    AK P t≠.fn∧∃l,AW P t=some l∧v.agg=Ag P t∧AX P l v.cs=true∧Gw P ts r=true:=by
  simp only [Gw,zzj] at ha;obtain ⟨ha,hr⟩:=ha;have key:AK P t≠.fn∧(match AW P t with
      |some l=>v.agg==Ag P t&&AX P l v.cs
      |none=>false)=true:=by
    rcases v with⟨_|_,_|⟨c,_|⟨d,l⟩⟩⟩
    · grind
    · cases c with
      |fn f caps=>cases h
      |ptr b off=>cases hp
      |_=>grind
    · grind
    all_goals grind
  grind
theorem xU {t:TypeId} {ts:List TypeId} {f:Nat} {caps:List (Cap (std E N))} {r:List (AV (std E N))} (ha:Gw P (t::ts) (.val ⟨false,[.fn f caps]⟩::r)=true):AK P t=.fn∧Gw P ts r=true:=by
 simp only[Gw,zzj]at ha
 grind
theorem xR {t:TypeId} {ts:List TypeId} {b off:Nat} {r:List (AV (std E N))} (ha:Gw P (t::ts) (.val ⟨false,[.ptr b off]⟩::r)=true):AW P t=some [t]∧Gw P ts r=true:=by
 simp only[Gw,zzj]at ha;obtain⟨h1,h2⟩:=ha;refine⟨?_,h2⟩;cases hl:AK P t with
 |sl e =>
  rw[hl]at h1;have h1:(match AW P t with|some [u]=>Nat.beq u t|_=>false)=true:=h1
  split at h1
  ·rename_i u hu;rw[hu,AG.1 h1]
  cases h1
 |_ =>
  rw[hl]at h1;cases h1
theorem qk (m:Mem P n0 β σ s w):∀ {ts:List TypeId} {cs:List (AC0 E N)} {vals:List Value} {ls:List AQ} {fr:List (Nat×Option (HEnt (std E N)))} {nw:Bool} {k k':Nat},RelCs P n0 β σ s w cs vals→AX P ts cs=true →
    RM.run s (JI (O:=std E N) cs) k=.ok ((ls,fr,nw),k')→FrOK s fr∧ls.length=ts.length ∧
      ∀(s1:St0 E N),Sub s s1→Frz s1 fr→∀(j:Nat) (t':TypeId) (v:Value),ts[j]?=some t'→vals[j]?=some v→Rep P w (StB n0 β σ s1 false) t' v (AA (ls.map Leaf.pv) j)
  | [],[],[],ls,fr,nw,k,k',_,_,h=>by
    cases zzc h;exact⟨fun _ _ hm=>by simp at hm,rfl,fun _ _ _ j t' v hj=>by simp at hj⟩
  |t::ts,c::cs,v::vals,ls,fr,nw,k,k',hc,hk,h=>by
    simp only[AX]at hk
    split at hk
    case h_2=>cases hk
    rename_i hk1;obtain⟨⟨l,f1,n1⟩,k1,h1,h2⟩:=zza h;obtain⟨⟨ls2,f2,n2⟩,k2,h3,h4⟩:=zza h2;have hr:=zzc h4;simp only[Prod.mk.injEq]at hr;obtain⟨rfl,rfl,rfl⟩:=hr;obtain⟨a1,a2,a3⟩:=XD m hc.1 h1;obtain⟨b1,b2,b3⟩:=qk m hc.2 hk h3;refine⟨a1.append b1,by simp[b2],fun s1 hs hf j t' v' hj hv=>?_⟩;cases j with
    |zero =>
      simp at hj hv;subst hj;subst hv;exact a3 t s1 hk1 hs (fun x hx h hh=>by obtain ⟨h',e1,e2⟩:=hf.left x hx;simp_all)
          (fun x hx=>by obtain⟨h',e1,_⟩:=hf.left x hx;simp_all) false (fun e=>by cases e)
    |succ j=>exact b3 s1 hs hf.right j t' v' (by simpa using hj) (by simpa using hv)
  | [],_::_,_,_,_,_,_,_,_,hk,_=>by simp[AX]at hk
  |_::_,[],_,_,_,_,_,_,_,hk,_=>by simp[AX]at hk
  |_,[],_::_,_,_,_,_,_,hc,_,_=>hc.elim
  |_,_::_,[],_,_,_,_,_,hc,_,_=>hc.elim
theorem ABn (m:Mem P n0 β σ s w) {t:TypeId} {b off:Nat} {l:AQ} {fr:List (Nat×Option (HEnt (std E N)))} {k k':Nat} (h:RM.run s (qj (O:=std E N) P t b off) k=.ok ((l,fr),k')) {v:Value} (hv:Q1 β s b off v) :
    FrOK s fr∧∃e r,(AK P t=.sl e∧Ag P t=false)∧l=.rows r∧∀(s1:St0 E N) (n0c:Nz) (σc:Nat→Option (Nat×Nat)) (s0:St0 E N),Sub s s1→Frz s1 fr→(∀b,StB n0 β σ s1 false b→b.b<w.heap.size→StB n0c noB σc s0 false b) →
      (∀b e blk,s.getB b=some e→β b=some blk→StB n0c noB σc s0 false ⟨blk,false⟩)→RelC P n0c noB σc s0 w (.imm e false r) v:=by
  unfold qj at h
  split at h
  case h_2=>exact(zzb h).elim
  rename_i e ht;obtain⟨T,hT⟩:∃T,e-ptB=T:=⟨_,rfl⟩;rw[hT]at h;obtain⟨k1,h0⟩:=zzg h;cases hb:s.getB b with
  |none=>rw[hb]at h0;exact(zzb h0).elim
  |some en =>
    rw[hb]at h0;simp only at h0
    split at h0
    case h_2=>exact(zzb h0).elim
    rename_i l0 cs htl hsl;obtain⟨_,k2,h1,h2⟩:=zza h0;have hg:=zzd h1;simp only[zzj]at hg;obtain⟨hge,hkd,hvt⟩:=hg;have hge:=Nat.le_of_ble_eq_true hge;obtain⟨⟨ls,fr2,nw⟩,k3,h3,h4⟩:=zza h2;cases zzc h4;obtain⟨he,hag⟩:e=T+ptB∧Ag P t=false:=by
      obtain⟨T',he,hun,_⟩:=uL ht hge;rw[he,Nat.add_sub_cancel]at hT;exact⟨by rw[he,hT],by unfold Ag;rw[hun]⟩
    have hvt:AK P e=.sl T:=by
      split at hvt
      · rename_i e' h9;rw[h9,AG.1 hvt]
      cases hvt
    obtain⟨blk,rfl,hxb⟩:=hv;have hblk:=hxb en hb;obtain⟨blk',cells,el,q1,q2,q3,_⟩:=m.B b en hb;rw[hblk]at q1;cases q1;obtain⟨hcs,hlen⟩:=DM hsl;obtain⟨hsz,hpos⟩:=CL htl;have hrel:RelCs P n0 β σ s w cs ((cells.toList.drop off).take (P.cellsOf T)):=by rw[hcs];exact(q3.drop off).take _
    have hvl:((cells.toList.drop off).take (P.cellsOf T)).length=l0.length:=by rw[←RelCs.length hrel,hlen,hsz]
    obtain⟨p1,p2,p3⟩:=qk m hrel hkd h3;have cell:∀j,j<l0.length→((cells.toList.drop off).take (P.cellsOf T))[j]?=some (cells.toList.getD (off+j) undef):=fun j hj=>by
      grind
    refine⟨p1,e,[ls.map Leaf.pv],⟨ht,hag⟩,rfl,fun s1 n0c σc s0 hs hf hst hbx=>⟨t,ht,.pt (by rw[←he];exact ht) hvt (cap:=1) (.sl (fun _ j=>cells.toList.getD (off+j) undef) hvt htl rfl (fun r hr=>?_) (Nat.le_refl _) (.inr ⟨⟨blk,false⟩,off,rfl,hbx b en blk hb hblk,⟨?_,fun h=>by cases h⟩,fun i j hi hj=>?_⟩) (fun i j t' hi hj=>?_))⟩⟩
    · simp_all
    · grind
    · have:i=0:=by omega
      subst this;rw[Du q2,Nat.zero_mul,Nat.zero_add]
      grind
    have:i=0:=by omega
    subst this;exact(p3 s1 hs hf j t' _ hj (cell j (List.getElem?_eq_some_iff.1 hj).1)).stL hst
theorem zE {T:TypeId} (h:vO P T=true):∃t,AK P t=.sl T:=by
 unfold vO at h
 split at h
 ·rename_i t _
  split at h
  ·rename_i e he;exact⟨t,by simp_all⟩
  cases h
 cases h
theorem mW {St:Blk→Prop}:∀ {ts:List TypeId} {cs:List (AC0 E N)} {vals:List Value} {ls:List AQ} {fr:List (Nat×Option (HEnt (std E N)))} {nw:Bool} {k k':Nat},cs.all j8=true→AX P ts cs=true→RelCs P n0 β σ s w cs vals→RM.run s (JI (O:=std E N) cs) k=.ok ((ls,fr,nw),k') →
    ls.length=ts.length∧∀(j:Nat) (t':TypeId) (v:Value),ts[j]?=some t'→vals[j]?=some v→Rep P w St t' v (AA (ls.map Leaf.pv) j)
  | [],[],[],ls,fr,nw,k,k',_,_,_,h=>by
    cases zzc h;exact⟨rfl,fun j t' v hj=>by simp at hj⟩
  |t::ts,c::cs,v::vals,ls,fr,nw,k,k',hp,hk,hc,h=>by
    simp only[AX]at hk
    split at hk
    case h_2=>cases hk
    rename_i hk1;simp only[List.all_cons,zzj]at hp;obtain⟨⟨l,f1,n1⟩,k1,h1,h2⟩:=zza h;obtain⟨⟨ls2,f2,n2⟩,k2,h3,h4⟩:=zza h2;have hr:=zzc h4;simp only[Prod.mk.injEq]at hr;obtain⟨rfl,_,_⟩:=hr;obtain⟨a1,a2⟩:=mW (St:=St) hp.2 hk hc.2 h3;have hd:Rep P w St t v l.pv:=by
      have hv:=hc.1;cases c with
      |int kk i =>
        cases zzc h1;cases hl:AK P t<;>rw[hl]at hk1<;>simp[BJ]at hk1;have hkk:=He.1 hk1;rw[hkk]at hl;have hv:v=.int kk i:=hv;subst hv;exact .int hl
      |bool b =>
        cases zzc h1;cases hl:AK P t<;>rw[hl]at hk1<;>simp[BJ]at hk1;have hv:v=.bool b:=hv;subst hv;exact .bool hl
      |str x =>
        cases zzc h1;cases hl:AK P t<;>rw[hl]at hk1<;>simp[BJ]at hk1;have hv:v=.string x:=hv;subst hv;exact .str hl
      |_=>simp[j8]at hp
    refine⟨by simp[a1],fun j t' v' hj hv=>?_⟩;cases j with
    |zero =>
      simp at hj hv;subst hj;subst hv;exact hd
    |succ j=>exact a2 j t' v' (by simpa using hj) (by simpa using hv)
  | [],_::_,_,_,_,_,_,_,_,hk,_,_=>by simp[AX]at hk
  |_::_,[],_,_,_,_,_,_,_,hk,_,_=>by simp[AX]at hk
  |_,[],_::_,_,_,_,_,_,_,_,hc,_=>hc.elim
  |_,_::_,[],_,_,_,_,_,_,_,hc,_=>hc.elim
theorem mA (m:Mem P n0 β σ s w):∀ {ts:List TypeId} {caps:List (Cap (std E N))} {cl:List AQ} {k k':Nat},RM.run s (sC (O:=std E N) P ts caps) k=.ok (cl,k')→∀ (rest:List AQ),
    ∃caps',Fx (O:=std E N) ts (cl++rest)=some (caps',rest)∧caps'.length=caps.length ∧
      ∀(n0c:Nz) (σc:Nat→Option (Nat×Nat)) (s0:St0 E N),(caps≠[]→∀b e blk,s.getB b=some e→β b=some blk→StB n0c noB σc s0 false ⟨blk,false⟩) →
        ∀(vs:List Value),(∀(i:Nat) (c:Cap (std E N)),caps[i]?=some c→∃x:Value,vs[i]?=some x∧T8 P n0 β σ s w c x) →
          ∀(i:Nat) (c:Cap (std E N)),caps'[i]?=some c→∃x:Value,vs[i]?=some x∧T8 P n0c noB σc s0 w c x
  | [],[],cl,k,k',h=>by
    cases zzc h;intro rest;exact⟨[],rfl,rfl,fun _ _ _ _ vs _ i c hc=>by simp at hc⟩
  |T::ts,.box b off::caps,cl,k,k',h=>by
    obtain⟨k1,h0⟩:=zzg h;cases hb:s.getB b with
    |none=>rw[hb]at h0;trivial
    |some e =>
      rw[hb]at h0;simp only at h0
      split at h0
      case h_2=>trivial
      rename_i l cs htl hsl;obtain⟨_,k2,h1,h2⟩:=zza h0;have hg:=zzd h1;simp only[zzj]at hg;obtain⟨⟨ls,fr,nw⟩,k3,h3,h4⟩:=zza h2;obtain⟨more,k4,h5,h6⟩:=zza h4;cases zzc h6;intro rest;obtain⟨caps',a1,a2,a3⟩:=mA m h5 rest;obtain⟨hcs,hlen⟩:=DM hsl;refine⟨.row T [ls.map Leaf.pv]::caps',?_,by simp[a2],fun n0c σc s0 hbx vs hvs i c hc=>?_⟩
      · show(Fx (O:=std E N) ts (more++rest)).map _=_
        simp_all
      cases i with
      |succ i =>
        obtain⟨x,hx,hr⟩:=a3 n0c σc s0 (fun _=>hbx (by simp)) vs.tail (fun i c hc=>by
          simp_all) i c (by trivial)
        simp_all
      |zero =>
        simp at hc;subst hc;obtain⟨x,hx,blk,hxv,hxb⟩:=hvs 0 _ rfl;refine⟨x,hx,Nat.zero_lt_one,?_⟩;have hblk:=hxb e hb;obtain⟨blk',cells,el,q1,q2,q3,_⟩:=m.B b e hb;rw[hblk]at q1;cases q1;obtain⟨t,ht⟩:=zE hg.2;obtain⟨hsz,hpos⟩:=CL htl;have hrel:RelCs P n0 β σ s w cs ((cells.toList.drop off).take (P.cellsOf T)):=by rw[hcs];exact(q3.drop off).take _
        have hvl:((cells.toList.drop off).take (P.cellsOf T)).length=l.length:=by rw[←RelCs.length hrel,hlen,hsz]
        obtain⟨p1,p2⟩:=mW (St:=StB n0c noB σc s0 false) hg.1.2 hg.1.1 hrel h3;have cell:∀j,j<l.length→((cells.toList.drop off).take (P.cellsOf T))[j]?=some (cells.toList.getD (off+j) undef):=fun j hj=>by
          grind
        refine⟨t,l,blk,off,1,1,ht,htl,.sl (fun _ j=>cells.toList.getD (off+j) undef) ht htl rfl (fun r hr=>?_) (Nat.le_refl _) (.inr ⟨⟨blk,false⟩,off,rfl,hbx (by simp) b e blk hb hblk,⟨?_,fun h=>by cases h⟩,fun i j hi hj=>?_⟩) (fun i j t' hi hj=>?_),hxv⟩
        · simp_all
        · grind
        · have:i=0:=by omega
          subst this;rw[Du q2,Nat.zero_mul,Nat.zero_add]
          grind
        have:i=0:=by omega
        subst this;exact p2 j t' _ hj (cell j (List.getElem?_eq_some_iff.1 hj).1)
  |T::ts,.row e l::caps,cl,k,k',h=>(zzb h).elim
  | [],_::_,cl,k,k',h=>(zzb h).elim
  |_::_,[],cl,k,k',h=>(zzb h).elim
theorem RX (m:Mem P n0 β σ s w):∀ {params:List TypeId} {args:List (AV (std E N))} {vals:List Value} {gives:List Bool} {fns:List Nat} {used u:List Nat} {ls:List AQ} {fr:List (Nat×Option (HEnt (std E N)))} {k k':Nat},
    RelArgs P n0 β σ s w args vals→Gw P params args=true→IV args=some fns→RM.run s (Mr (O:=std E N) P gives params used args) k=.ok ((ls,fr,u),k') →
    ∀(q:Nat),FrOK s fr∧∃(vs:List (AV (std E N))) (nh:List (Nat×HEnt (std E N))) (ids:List (Option Nat)),
      BS (O:=std E N) P gives q params fns ls=some (vs,nh)∧Ents P s q ids nh∧(∀n∈u,n∈used∨some n∈ids)∧(∀n∈used,n∈u)∧(∀n,some n∈ids→n∈u∧n∉used)∧(ids.filterMap id).Nodup∧(∀p∈nh,p.2.nw=false) ∧
      ∀(s1:St0 E N) (n0c:Nz) (σc:Nat→Option (Nat×Nat)) (s0:St0 E N),Sub s s1→Frz s1 fr→(∀b,StB n0 β σ s1 false b→b.b<w.heap.size→StB n0c noB σc s0 false b)→(UG args=false→∀b e blk,s.getB b=some e→β b=some blk→StB n0c noB σc s0 false ⟨blk,false⟩)→Wired σ σc s0 q ids nh→RelArgs P n0c noB σc s0 w vs vals
  | [],[],[],gives,fns,used,u,ls,fr,k,k',_,_,hf,h=>by
    cases zzc h;simp only[IV]at hf;cases hf;intro q;exact⟨fun _ _ hm=>by simp at hm,[],[],[],rfl,trivial,fun n hn=>.inl hn,fun n hn=>hn,fun n hn=>by simp at hn,List.nodup_nil,fun p hp=>by simp at hp,fun _ _ _ _ _ _ _ _ _=>trivial⟩
  |t::params,.tup y::args,v::vals,gives,fns,used,u,ls,fr,k,k',hr,ha,hf,h=>by trivial
  |t::params,.val y::args,v::vals,gives,fns,used,u,ls,fr,k,k',hr,ha,hf,h=>by
    intro q;cases hy:fnV y with
    |some fc =>
      obtain⟨f,caps⟩:=fc;have:=qK hy;subst this;obtain⟨hl,ha2⟩:=xU ha;simp only[IV,zzo]at hf;obtain⟨fns2,hf2,rfl⟩:=hf;obtain⟨ts0,k1,h1,h2⟩:=zza h;have hct:=zzh h1;obtain⟨cl,k2,h3,h4⟩:=zza h2;obtain⟨⟨ls2,fr2,u2⟩,k3,h5,h6⟩:=zza h4;cases zzc h6;obtain⟨b0,vs,nh,ids,b1,b2,b3,b4,b5,b6,b7,b8⟩:=RX m hr.2 ha2 hf2 (gives:=gives.tail) h5 q;obtain⟨caps',c1,c2,c3⟩:=mA m h3 ls2;refine⟨b0,one (.fn f caps')::vs,nh,ids,by simp only[BS,hl,hct,c1,b1];rfl,b2,b3,b4,b5,b6,b7,fun s1 n0c σc s0 hs hfz hst hbx hw=>⟨?_,b8 s1 n0c σc s0 hs hfz hst (fun hn=>hbx (by
        cases caps with
        |nil=>exact hn
        |cons c r=>rfl)) hw⟩⟩
      refine⟨?_,hr.1.2⟩;have h1:=hr.1.1
      revert h1
      generalize v.cells.toList=L;intro h1
      match L,h1 with
      | [z],h1 =>
        obtain⟨vs2,e1,e2,e3⟩:=h1.1;exact⟨⟨vs2,e1,by omega,c3 n0c σc s0 (fun hne=>hbx (by
          cases caps with
          |nil=>trivial
          |cons c r=>rfl)) vs2 e3⟩,trivial⟩
    |none =>
     cases hz:ptV y with
     |some bo =>
      obtain⟨b,off⟩:=bo;have:=qN hz;subst this;obtain⟨htl,ha2⟩:=xR ha;have hf2:IV args=some fns:=hf;obtain⟨_,k0,h0,h⟩:=zza h;have hg0:=zzd h0;simp only[Bool.not_eq_true']at hg0;obtain⟨⟨l1,f1⟩,k1,h1,h2⟩:=zza h;obtain⟨⟨ls2,fr2,u2⟩,k2,h3,h4⟩:=zza h2;cases zzc h4;have hv:=C0 hr.1;obtain⟨c1,e,r,c2,rfl,c4⟩:=ABn m h1 hv;obtain⟨b0,vs,nh,ids,b1,b2,b3,b4,b5,b6,b7,b8⟩:=RX m hr.2 ha2 hf2 (gives:=gives.tail) h3 q;refine⟨c1.append b0,one (.imm e false r)::vs,nh,ids,?_,b2,b3,b4,b5,b6,b7,fun s1 n0c σc s0 hs hfz hst hbx hw=>⟨?_,b8 s1 n0c σc s0 hs hfz.right hst (fun hn=>hbx rfl) hw⟩⟩
      · have c5:AK P t=.sl e:=c2.1;have c6:Ag P t=false:=c2.2;simp only[BS,c5,c6,htl,hg0,Ak,Option.map_some,b1,List.length_nil,Nat.add_zero,List.nil_append];rfl
      exact Ac (c4 s1 n0c σc s0 hs hfz.left hst (hbx rfl))
     |none =>
      obtain⟨hl,l,htl,hag,hk,ha2⟩:=vu hy hz ha;have hf2:IV args=some fns:=by
        rw[wA hy hz]at hf
        grind
      rw[ma hy hz]at h
      split at h
      · rename_i hg;obtain⟨⟨ls1,u1⟩,k1,h1,h2⟩:=zza h;obtain⟨⟨ls2,fr2,u2⟩,k2,h3,h4⟩:=zza h2;cases zzc h4;obtain⟨cs',nh1,ids1,a1,a2,a3,a4,a5,a6,a8,a7⟩:=Np m hr.1.1 hk h1 q ls2;obtain⟨b0,vs,nh2,ids2,b1,b2,b3,b4,b5,b6,b7,b8⟩:=RX m hr.2 ha2 hf2 h3 (q+nh1.length);have hlen:=a2.len;refine⟨b0,.val { agg:=Ag P t,cs:=cs' }::vs,nh1++nh2,ids1++ids2,?_,a2.append b2,fun n hn=>?_,fun n hn=>b4 n (a4 n hn),fun n hn=>?_,?_,fun p hp=>(List.mem_append.1 hp).elim (a8 p) (b7 p),fun s1 n0c σc s0 hs hfz hst hbx hw=>⟨⟨a7 n0c σc s0 (hw.left hlen),?_⟩,b8 s1 n0c σc s0 hs hfz hst (fun hn=>hbx ((gS hy hz).trans hn)) (hw.right hlen)⟩⟩
        · have hg':gives.headD false=true:=hg;cases hl2:AK P t<;>first|trivial|(simp only[BS,hl2,htl,hg',a1,b1];rfl)
        · grind
        · grind
        · grind
        rw[←hag];exact hr.1.2
      rename_i hg;obtain⟨⟨ls1,f1,nw1⟩,k1,h1,h2⟩:=zza h;obtain⟨⟨ls2,fr2,u2⟩,k2,h3,h4⟩:=zza h2;cases zzc h4;obtain⟨a1,a2,cs',a3,a4⟩:=mQ m hr.1.1 hk h1 q ls2;obtain⟨b0,vs,nh2,ids2,b1,b2,b3,b4,b5,b6,b7,b8⟩:=RX m hr.2 ha2 hf2 h3 q;refine⟨a1.append b0,.val { agg:=Ag P t,cs:=cs' }::vs,nh2,ids2,?_,b2,b3,b4,b5,b6,b7,fun s1 n0c σc s0 hs hfz hst hbx hw=>⟨⟨a4 s1 n0c σc s0 hs hfz.left hst,?_⟩,b8 s1 n0c σc s0 hs hfz.right hst (fun hn=>hbx ((gS hy hz).trans hn)) hw⟩⟩
      · have hg':gives.headD false=false:=hg;cases hl2:AK P t<;>first|trivial|(simp only[BS,hl2,htl,hg',a3,List.length_nil,Nat.add_zero,b1];rfl)
      rw[←hag];exact hr.1.2
  | [],_::_,_,_,_,_,_,_,_,_,_,_,ha,_,_=>by trivial
  |_::_,[],_,_,_,_,_,_,_,_,_,_,ha,_,_=>by trivial
  |_,[],_::_,_,_,_,_,_,_,_,_,hr,_,_,_=>hr.elim
  |_,_::_,[],_,_,_,_,_,_,_,_,hr,_,_,_=>hr.elim
end
end Go.Px
end
