/- Part 4. -/
import Derived.Test.YtokmalmdcihogabGreatPart03
set_option linter.unusedVariables false
set_option linter.unusedSimpArgs false
section
namespace Go.Px
section
variable {E:Env} {N:Nat} {P:Program} {n0:Nz} {nt:Nat} {β:Nat→Option Nat} {σ:Nat→Option (Nat×Nat)} {s s':St0 E N} {a:Act} {w w':World}
def Ot (P:Program) (n0:Nz) (β:Nat→Option Nat) (σ:Nat→Option (Nat×Nat)) (s:St0 E N) (a:Act) (w:World) (o:Oper) (id:Nat) (c:AC0 E N) (wr:Wr (std E N)):Prop :=
 ∃ z β' σ' w',(execOp a.eval o).run P w=.ok (.value z) w'∧Mem P n0 β' σ' (s.apply wr) w'∧Ext P (·=id) β σ s w β' σ' (s.apply wr) w'∧Tidy a (·=id) s (s.apply wr) ∧
  RelC P n0 β' σ' (s.apply wr) w' c z∧(∀ n,Fresh a s n→n≠id→n∉c.names)∧wr.ts=[]
theorem gn (hs : Sim P n0 nt β σ s a w) {id : Nat} (hid : Fresh a s id) {o : Oper} {T : TypeId} {cs : List (AC0 E N)} {v : Value}
    (hr:RelCs P n0 β σ s w cs v.cells.toList) (hcn:∀ n,Fresh a s n→n∉AB cs) (hbh:∀ blk,BH blk v.cells T cs)
    (hex:(execOp a.eval o).run P w=.ok (.value (.pointer (some ⟨w.heap.size,0,none⟩))) (w.alloc (.cells v.cells T))) :
    Ot P n0 β σ s a w o id (.ptr id 0) { bs:=[(id,some { cs,dirty:=true })] }:=by
  obtain ⟨m1,x1⟩:=sw hs.M hid hr (hcn id hid) T (hbh _) (wr:={ bs:=[(id,some { cs,dirty:=true })] }) rfl rfl;refine ⟨_,_,σ,_,hex,m1,x1,iC hcn rfl rfl rfl,⟨w.heap.size,rfl,fun e he=>Ai _ _ _⟩,fun n _ hn=>by simpa [AC.names] using hn,rfl⟩
theorem JT {id blk cap : Nat} {h : HEnt (std E N)} {σ' : Nat → Option (Nat × Nat)} {s' : St0 E N} {w' : World} {T0 : TypeId} (hsl : AH P T0 = .sl h.e) (hg : s'.getH id = some h) (hs : σ' id = some (blk, cap)) {n : Nat} (hn : n = h.l.length) :
    RelC P n0 β σ' s' w' (.own h.e id) (.slice (some ⟨blk,0,none⟩) n cap) :=
  ⟨⟨T0,hsl,_,_,_,rfl⟩,fun h2 hh2=>by rw [hg] at hh2;cases hh2;exact ⟨rfl,.inl ⟨blk,cap,hs,by rw [hn]⟩⟩⟩
theorem R6 (hs : Sim P n0 nt β σ s a w) {ctx : List (Nat × Bool)} (hf : Facts a ctx) {id : Nat} (hid : Fresh a s id) {o : Oper} {T : TypeId} {len : Nat} {parts : Array (Nat × Operand)}
    (hop:o.op=.buildSlice T len parts) {as:List Bool} {c:AC0 E N} {wr:Wr (std E N)} {m m':Nat} (h:RM.run s (IK P ctx id (.buildSlice T len parts)) m=.ok ((as,c,wr),m')) :
    Ot P n0 β σ s a w o id c wr:=by
  simp only [IK] at h
  split at h
  · exact (zzb h).elim
  · rename_i e he
    split at h
    · rename_i z ts hz hts;obtain ⟨_,m1,h1,h2⟩:=zza h;obtain ⟨cs,m2,h3,h4⟩:=zza h2;obtain ⟨⟨rows,fr,nw⟩,m3,h5,h6⟩:=zza h4;obtain ⟨_,m4,h7,h8⟩:=zza h6;have hr8:=zzc h8;simp only [Prod.mk.injEq] at hr8;obtain ⟨_,rfl,rfl⟩:=hr8;have hg:=zzd h1;simp only [zzk] at hg;have hlim:len * P.cellsOf e≤100000:=Nat.le_of_ble_eq_true hg.1;have hzl:=AA.1 hg.2;have hk:=zzd h7;have hu:=Nn he;obtain ⟨hsz,hpos⟩:=B9 hts;obtain ⟨ti,v,hi,hiz,hzv,hrz,hnz,hoz⟩:=JO (n0:=n0) (β:=β) (σ:=σ) (s:=s) (w:=w) hz;have hvl:v.cells.size=P.cellsOf e:=by have:=RelCs.length hrz.1;simp at this;omega
      have hinit:RelCs P n0 β σ s w (Di len z.cs) ((Array.range (len * P.cellsOf e)).map (v.cells[· % v.cells.size]!)).toList:=by
        rw [← hvl,lg v.cells (by omega) len];exact qs hrz.1 len
      obtain ⟨cells', f1, f2, f3, f4⟩ := Uo hs hf (place := fun i => some (i * P.cellsOf e, e)) (place' := fun i => some (i * P.cellsOf e, P.cellsOf e)) (fun i off T hp => by
          simp only [Option.some.injEq,Prod.mk.injEq] at hp;obtain ⟨rfl,rfl⟩:=hp;rfl) h3 hinit
      have hcsl:cs.length=len * ts.length:=by rw [f3,Yj,hzl,hsz]
      have hcl:cells'.size=len * ts.length:=by have:=RelCs.length f2;simp at this;omega
      have hcn:∀ n,Fresh a s n→n∉AB cs:=fun n hn=>f4 n hn (by
        rw [BB]
        rintro ⟨c,hc,hm⟩
        have:∀ k,c∈Di k z.cs→c∈z.cs:=by
          intro k
          induction k with
          | zero=>intro h;simp [Di] at h
          | succ k ih=>intro h;simp only [Di,List.mem_append] at h;exact h.elim (fun h=>h) ih
        have h2:=BB.2 ⟨c,this len hc,hm⟩;rw [hnz] at h2;simp at h2)
      have hch:∀ i,i<len→(Hh (P.cellsOf e) len cs)[i]?=some ((cs.drop (i * ts.length)).take ts.length):=fun i hi=>by rw [U4 _ _ _ _ hi,hsz]
      have hcv:∀ i,i<len→(Hh (P.cellsOf e) len cells'.toList)[i]?=some ((cells'.toList.drop (i * ts.length)).take ts.length):=fun i hi=>by rw [U4 _ _ _ _ hi,hsz]
      obtain ⟨g1,g2,g3,g5,g4⟩:=fU hs.M (css:=Hh (P.cellsOf e) len cs) (vss:=Hh (P.cellsOf e) len cells'.toList) (by rw [Ho,Ho]) (fun i c1 v1 hc1 hv1=>by
        have hi:i<len:=by have:=(List.getElem?_eq_some_iff.1 hc1).1;rw [Ho] at this;exact this
        rw [hch i hi] at hc1;rw [hcv i hi] at hv1;cases hc1;cases hv1;exact RelCs.take _ (RelCs.drop _ f2)) h5
      have hrl:rows.length=len:=by rw [g3,Ho]
      have hmulle:∀ i j,i<len→j<ts.length→i * ts.length+j<cells'.size:=fun i j hi hj=>by
        rw [hcl];have:(i+1) * ts.length≤len * ts.length:=Nat.mul_le_mul_right _ hi;rw [Nat.add_mul,Nat.one_mul] at this;omega
      have key:=eN hs.M hid g1.pre (h:={ e,frozen:=false,nw,l:=rows.map (·.map Leaf.pv),dirty:=true })
        (wr:={ hs:=fr++[(id,some { e,frozen:=false,nw,l:=rows.map (·.map Leaf.pv),dirty:=true })] }) rfl rfl rfl rfl rfl (Grow.refl w) (cells:=cells') (cap:=len) (t:=T) (ts:=ts)
        (Bm.2 hu) hts (fun r hr=>by
          obtain ⟨l,hl,rfl⟩:=List.mem_map.1 hr;obtain ⟨i,hi,hget⟩:=List.mem_iff_getElem.1 hl;have hi':i<len:=by omega
          have:=g5 i l _ (by rw [zzo hi,hget]) (hch i hi');rw [List.length_map,this,List.length_take,List.length_drop,hcsl];have:(i+1) * ts.length≤len * ts.length:=Nat.mul_le_mul_right _ hi';rw [Nat.add_mul,Nat.one_mul] at this;omega) hcl (by simp [hrl]) hs.n0le (fun i j=>cells'.getD (i * ts.length+j) undef)
        (fun i j hi hj=>by
          have hi':i<len:=by simpa [hrl] using hi
          have:=hmulle i j hi' hj;simp [this])
        (fun i j t' hi hj=>by
          have hi':i<len:=by simpa [hrl] using hi
          have hj':j<ts.length:=(List.getElem?_eq_some_iff.1 hj).1;have hlt:=hmulle i j hi' hj';refine g4 ts (s.apply { hs:=fr }) hk (g1.sub rfl rfl) (g1.frz rfl) nw (fun h=>h) i j t' _ _ (hcv i hi') hj ?_;rw [List.getElem?_take,if_pos hj',List.getElem?_drop];simp [hlt])
      obtain ⟨k1,k2,k3,k4⟩:=key;refine ⟨.slice (some ⟨w.heap.size,0,none⟩) len len,β,_,_,?_,k1,k2,k3,?_,fun n _ hn=>by simpa [AC.names] using hn,rfl⟩
      · refine (Lz (x:=Instr.buildSlice T len (parts.map fun (i,x)=>(i,a.eval x))) (by simp [execOp,hop]) ?_);have hl:(parts.map fun (i,x)=>(i,a.eval x)).toList=parts.toList.map fun (i,x)=>(i,a.eval x):=by simp
        have hnl:¬ (len * P.cellsOf e > 2 ^ 24):=by omega
        by_cases h0:len * P.cellsOf e=0
        · have hr0:(Array.range (len * P.cellsOf e)).map (v.cells[· % v.cells.size]!)=#[]:=by rw [h0];simp [Array.range_zero']
          have hr1:(Array.range (len * P.cellsOf e)).map ((#[]:Array Value)[· % (#[]:Array Value).size]!)=#[]:=by rw [h0];simp [Array.range_zero']
          rw [hr0] at f1;simp [Instr.buildSlice,run_underlying hu,BF hi,hnl,h0,hl,f1,newRow,Array.range_zero']
        · simp [Instr.buildSlice,run_underlying hu,BF hi,hnl,h0,hl,f1,newRow,hzv]
      · exact JT (Bm.2 hu) k4 (Ai _ _ _) (by simp [hrl])
    · exact (zzb h).elim
theorem U9 {n:Int} {b:Nat} (h:decide (0≤n∧n≤17592186044416∧n * (b:Int)≤17592186044416∧b≤1048576)=true):0≤n∧n≤17592186044416∧n * (b:Int)≤17592186044416∧b≤1048576:=of_decide_eq_true h
theorem fm {x y:Operand} (h:Y7 x y=true) (k:IntKind) (i:Int) (hx:a.eval x=.int k i):∃ k',a.eval y=.int k' i:=by
 unfold Y7 at h
 split at h
 ·have:=AA.1 h;subst this;exact ⟨k,hx⟩
 ·rename_i k1 n1 k2 n2;have:=of_decide_eq_true h;subst this;have hx':Value.int k1 n1=.int k i:=hx;cases hx';exact ⟨k2,rfl⟩
 ·cases h
theorem RN : ∀ {cs : List (AC0 E N)} {ls : List AU} {fr : List (Nat × Option (HEnt (std E N)))} {nw : Bool} {k k' : Nat}, cs.all ZF = true →
    RM.run s (JS (O:=std E N) cs) k=.ok ((ls,fr,nw),k')→fr=[]∧nw=true
  | [],ls,fr,nw,k,k',_,h=>by
    have hr:=zzc h;simp only [Prod.mk.injEq] at hr;exact ⟨hr.2.1.symm,hr.2.2.symm⟩
  | c::cs,ls,fr,nw,k,k',hc,h=>by
    simp only [List.all_cons,zzk] at hc;obtain ⟨⟨l,f1,n1⟩,k1,h1,h2⟩:=zza h;obtain ⟨⟨ls2,f2,n2⟩,k2,h3,h4⟩:=zza h2;have hr:=zzc h4;simp only [Prod.mk.injEq] at hr;obtain ⟨_,rfl,rfl⟩:=hr;obtain ⟨rfl,rfl⟩:=RN hc.2 h3;have:f1=[]∧n1=true:=by
      cases c<;>first
        | (have hr:=zzc h1;simp only [Prod.mk.injEq] at hr;exact ⟨hr.2.1.symm,hr.2.2.symm⟩)
        | (cases hc.1)
    obtain ⟨rfl,rfl⟩:=this;exact ⟨rfl,rfl⟩
theorem dl (hs : Sim P n0 nt β σ s a w) {ctx : List (Nat × Bool)} (hf : Facts a ctx) {id : Nat} (hid : Fresh a s id) {o : Oper} {T : TypeId} {len cap : Operand}
    (hop:o.op=.makeSlice T len cap) {as:List Bool} {c:AC0 E N} {wr:Wr (std E N)} {m m':Nat} (h:RM.run s (IK P ctx id (.makeSlice T len cap)) m=.ok ((as,c,wr),m')) (has:∀ b∈as,b=true) :
    Ot P n0 β σ s a w o id c wr:=by
  simp only [IK] at h
  split at h
  · exact (zzb h).elim
  · rename_i e he
    split at h
    · rename_i z ti ts hz hi hts;obtain ⟨n,m1,h1,h2⟩:=zza h;obtain ⟨_,m2,h3,h4⟩:=zza h2;obtain ⟨⟨ls,fr,nw⟩,m3,h5,h6⟩:=zza h4;have hr6:=zzc h6;simp only [Prod.mk.injEq] at hr6;obtain ⟨rfl,rfl,rfl⟩:=hr6;obtain ⟨n,rfl⟩:∃ j:Int,j=n:=⟨n,rfl⟩;have hg:=zzd h3;simp only [zzk] at hg;obtain ⟨⟨hsame,hk⟩,hsc⟩:=hg;have hb:=U9 (n:=n) (b:=ti.bytes) (has _ zzm);have hu:=Nn he;obtain ⟨hsz,hpos⟩:=B9 hts;obtain ⟨ti',v,hi',hiz,hzv,hrz,hnz,hoz⟩:=JO (n0:=n0) (β:=β) (σ:=σ) (s:=s) (w:=w) hz;rw [hi] at hi';cases hi';obtain ⟨rfl,rfl⟩:=RN hsc h5;have frn:FrOK s ([]:List (Nat×Option (HEnt (std E N)))):=fun n v hm=>by simp at hm
      obtain ⟨_,_,hll,hlf⟩:=Q4 hs.M hrz.1 h5;have hk1:AO P ts z.cs=true:=by
        simp only [Ir] at hk
        split at hk
        · assumption
        · cases hk
      have hzl:z.cs.length=ts.length:=by
        have:∀ {ts:List TypeId} {cs:List (AC0 E N)},AO P ts cs=true→cs.length=ts.length:=by
          intro ts
          induction ts with
          | nil => intro cs h; cases cs with
                   | nil=>rfl
                   | cons=>simp [AO] at h
          | cons t ts ih => intro cs h; cases cs with
                   | nil=>simp [AO] at h
                   | cons c cs => simp only [AO] at h; split at h
                                  · simp [ih h]
                                  · cases h
        exact this hk1
      have hvl:v.cells.size=ts.length:=by have:=RelCs.length hrz.1;simp at this;omega
      have htz:ti.size=ts.length:=by rw [← hsz];simp [Program.cellsOf,hi]
      obtain ⟨k1,hk1'⟩:=UD hs hf h1;obtain ⟨k2,hk2'⟩:=fm hsame _ _ hk1';have hcells:(madeCells v.cells (n.toNat * ti.size)).toList=Di n.toNat v.cells.toList:=by
        rw [htz,← hvl];exact lg v.cells (by omega) _
      have hml:(madeCells v.cells (n.toNat * ti.size)).size=n.toNat * ts.length:=by rw [size_madeCells,htz]
      have hmulle:∀ i j,i<n.toNat→j<ts.length→i * ts.length+j<n.toNat * ts.length:=fun i j hi hj=>by
        have:(i+1) * ts.length≤n.toNat * ts.length:=Nat.mul_le_mul_right _ hi;rw [Nat.add_mul,Nat.one_mul] at this;omega
      have hcell:∀ i j,i<n.toNat→j<ts.length→(madeCells v.cells (n.toNat * ti.size))[i * ts.length+j]?=v.cells[j]?:=fun i j hi' hj=>by
        rw [← Array.getElem?_toList,hcells,Y8 (by simp;omega) _ _ (by simpa [hvl] using hmulle i j hi' hj)];have:(i * ts.length+j) % v.cells.toList.length=j:=by
          simp only [Array.length_toList,hvl];rw [Nat.add_comm,Nat.mul_comm,Nat.add_mul_mod_self_left];exact Nat.mod_eq_of_lt hj
        rw [this];simp
      have key:=eN hs.M hid frn.pre (h:={ e,frozen:=false,nw:=true,l:=List.replicate n.toNat (ls.map Leaf.pv),dirty:=true })
        (wr:={ hs:=[(id,some { e,frozen:=false,nw:=true,l:=List.replicate n.toNat (ls.map Leaf.pv),dirty:=true })] }) rfl rfl rfl rfl rfl (Grow.refl w)
        (cells:=madeCells v.cells (n.toNat * ti.size)) (cap:=n.toNat) (t:=T) (ts:=ts)
        (Bm.2 hu) hts (fun r hr=>by
          rw [List.eq_of_mem_replicate hr,List.length_map,hll,hzl]) hml (by simp) hs.n0le (fun i j=>v.cells.getD j undef)
        (fun i j hi' hj=>by
          have hi2:i<n.toNat:=by simpa using hi'
          rw [hcell i j hi2 hj];simp [hvl,hj])
        (fun i j t' hi' hj=>by
          have hi2:i<n.toNat:=by simpa using hi'
          have hj':j<ts.length:=(List.getElem?_eq_some_iff.1 hj).1;have:=hlf ts (s.apply { hs:=[] }) hk1 (frn.sub rfl rfl) (frn.frz rfl) true (fun h=>h) j t' (v.cells.getD j undef) hj (by simp [hvl,hj']);have hrow:AK (List.replicate n.toNat (ls.map Leaf.pv)) i=ls.map Leaf.pv:=by simp [AK,hi2]
          simpa [AF,hrow] using this)
      obtain ⟨q1,q2,q3,q4⟩:=key;refine ⟨.slice (some ⟨w.heap.size,0,none⟩) n.toNat n.toNat,β,_,_,?_,q1,q2,q3,?_,fun k _ hn=>by simpa [AC.names] using hn,rfl⟩
      · refine Lz (x:=Instr.makeSlice T (a.eval len) (a.eval cap)) (by simp [execOp,hop]) ?_;rw [hk1',hk2'];exact run_make (P:=P) (w:=w) T e ti v hu hi hiz k1 k2 n n hb.1 (Int.le_refl _) (by rw [Int.mul_comm];omega) (by omega)
      · exact JT (Bm.2 hu) q4 (Ai _ _ _) (by simp)
    · exact (zzb h).elim
theorem oz (m : Mem P n0 β σ s w) {c : AC0 E N} {v : Value} {e : TypeId} {l : Rows} {nw : Bool} {k k' : Nat} (hc : RelC P n0 β σ s w c v) (h : RM.run s (WX (O := std E N) c) k = .ok ((e, l, nw), k')) :
    ∃ (av:Option Addr) (cap:Nat) (ts:List TypeId) (u:Nat→Nat→Value),v=.slice av l.length cap∧l.length≤cap∧AM P e=some ts∧(∀ r∈l,r.length=ts.length) ∧
      (l=[]∨∃ b off,av=some ⟨b,off,none⟩∧∀ i j,i<l.length→j<ts.length→w.cell? ⟨b,off+(i * ts.length+j),none⟩=some (u i j)) ∧
      (∀ (nb:Bool),(nb=true→nw=true∨∀ t'∈ts,∀ e,AH P t'≠.sl e)→∀ i j t',i<l.length→ts[j]?=some t'→Rep P w (StB n0 β σ s nb) t' (u i j) (AF l i j)):=by
  have weak : ∀ (ts : List TypeId) (u : Nat → Nat → Value), (∀ i j t', i < l.length → ts[j]? = some t' → Rep P w (StB n0 β σ s nw) t' (u i j) (AF l i j)) →
      ∀ (nb:Bool),(nb=true→nw=true∨∀ t'∈ts,∀ e,AH P t'≠.sl e)→∀ i j t',i<l.length→ts[j]?=some t'→Rep P w (StB n0 β σ s nb) t' (u i j) (AF l i j):=by
    intro ts u hu nb hnb i j t' hi hj;have:=hu i j t' hi hj;cases nb with
    | false=>exact this.st (fun b hb=>⟨hb.1,hb.2.mono (fun h=>by cases h)⟩)
    | true =>
      rcases hnb rfl with h1 | h1
      · exact this.st (fun b hb=>⟨hb.1,hb.2.mono (fun _=>h1)⟩)
      · generalize u i j=x,AF l i j=y at this;cases this with
        | int h=>exact .int h
        | bool h=>exact .bool h
        | str h=>exact .str h
        | sl v h _ _ _ _ _ _=>exact (h1 t' (List.mem_of_getElem? hj) _ h).elim
  cases c with
  | nil e0 =>
    have hr:=zzc h;simp only [Prod.mk.injEq] at hr;obtain ⟨rfl,rfl,rfl⟩:=hr;obtain ⟨t,ts,ht,hts,av,rfl⟩:=hc;exact ⟨av,0,ts,fun _ _=>undef,rfl,Nat.le_refl _,hts,by simp,.inl rfl,fun nb _ i j t' hi=>by simp at hi⟩
  | imm e0 nw0 l0 =>
    have hr:=zzc h;simp only [Prod.mk.injEq] at hr;obtain ⟨rfl,rfl,rfl⟩:=hr;obtain ⟨t,ht,hrep⟩:=hc;cases hrep with
    | @sl _ e2 ts av len cap _ vv ht' hts hl hr hcc hm hv =>
      rw [ht] at ht';cases ht';subst hl;refine ⟨av,cap,ts,vv,rfl,hcc,hts,hr,?_,weak ts vv hv⟩
      rcases hm with hm | ⟨b,off,ha,_,_,hcell⟩
      · exact .inl (List.length_eq_zero_iff.1 hm)
      · exact .inr ⟨b.b,off,ha,hcell⟩
  | own e0 id =>
    obtain ⟨k1,h⟩:=zzf h;cases hh:s.getH id with
    | none=>rw [hh] at h;exact (zzb h).elim
    | some en =>
      rw [hh] at h;have hr:=zzc h;simp only [Prod.mk.injEq] at hr;obtain ⟨rfl,rfl,rfl⟩:=hr;obtain ⟨⟨te,hte,_⟩,hk⟩:=hc;obtain ⟨hee,ho⟩:=hk en hh
      rcases m.H id en hh with ⟨t,ts,ht,hts,hrl,hm⟩ | hM
      case inr=>exact (hM.noSl (by rw [hee];exact hte)).elim
      rcases ho with ⟨blk,cap,hs,rfl⟩ | ⟨hs,hz,av,rfl⟩
      · rcases hm with ⟨hn,_⟩ | ⟨blk',cap',cells,el,hs',hheap,hel,hsz,hcap,hnw,u,hu,hrep⟩
        · rw [hn] at hs;cases hs
        · rw [hs'] at hs;cases hs;exact ⟨_,cap,ts,u,rfl,hcap,hts,hrl,.inr ⟨blk,0,rfl,fun i j hi hj=>by rw [Eg hheap,Nat.zero_add];exact hu i j hi hj⟩,weak ts u hrep⟩
      · have hl:en.l=[]:=List.length_eq_zero_iff.1 hz;exact ⟨av,0,ts,fun _ _=>undef,by rw [hz],by rw [hz];exact Nat.le_refl _,hts,hrl,.inl hl,fun nb _ i j t' hi=>by rw [hz] at hi;omega⟩
  | _=>exact (zzb h).elim
def flat (n sz:Nat) (f:Nat→Nat→Value):List Value:=(List.range (n * sz)).map fun k=>f (k / sz) (k % sz)
theorem B1 (n sz:Nat) (f:Nat→Nat→Value):(flat n sz f).length=n * sz:=by simp [flat]
theorem Mo {i j n sz:Nat} (hi:i<n) (hj:j<sz):i * sz+j<n * sz:=by
 have:(i+1) * sz≤n * sz:=Nat.mul_le_mul_right _ hi;rw [Nat.add_mul,Nat.one_mul] at this;omega
theorem VM {n sz:Nat} (f:Nat→Nat→Value) {i j:Nat} (hi:i<n) (hj:j<sz):(flat n sz f)[i * sz+j]?=some (f i j):=by
 have h1:(i * sz+j) / sz=i:=by
  rw [Nat.add_comm,Nat.mul_comm,Nat.add_mul_div_left _ _ (by omega),Nat.div_eq_of_lt hj,Nat.zero_add]
 have h2:(i * sz+j) % sz=j:=by
  rw [Nat.add_comm,Nat.mul_comm,Nat.add_mul_mod_self_left];exact Nat.mod_eq_of_lt hj
 simp [flat,Mo hi hj,h1,h2]
theorem UW {n sz : Nat} (hsz : 0 < sz) {f : Nat → Nat → Value} {b off : Nat} (h : ∀ i j, i < n → j < sz → w.cell? ⟨b, off + (i * sz + j), none⟩ = some (f i j)) :
    ∀ j v,(flat n sz f)[j]?=some v→w.cell? ((⟨b,off,none⟩:Addr).add j)=some v:=by
  intro j v hj;have hlt:j<n * sz:=by have:=(List.getElem?_eq_some_iff.1 hj).1;rwa [B1] at this
  have hd:j / sz<n:=Nat.div_lt_of_lt_mul (by rwa [Nat.mul_comm] at hlt);have hm:j % sz<sz:=Nat.mod_lt _ hsz;have e:j=j / sz * sz+j % sz:=by rw [Nat.mul_comm];exact (Nat.div_add_mod j sz).symm
  have:=h (j / sz) (j % sz) hd hm;rw [← e] at this;rw [JA,this];rw [e,VM f hd hm] at hj;exact hj
theorem qi {n sz:Nat} (hsz:0<sz) {f:Nat→Nat→Value} (h:∀ i j,i<n→j<sz→(f i j).oneCell'=true):∀ v∈flat n sz f,v.oneCell'=true:=by
 intro v hv;obtain ⟨j,hj,rfl⟩:=List.mem_map.1 hv;have hlt:=List.mem_range.1 hj;exact h _ _ (Nat.div_lt_of_lt_mul (by rwa [Nat.mul_comm] at hlt)) (Nat.mod_lt _ hsz)
theorem Rep.one {St:Blk→Prop} {t:TypeId} {v:Value} {p:PV} (h:Rep P w St t v p):v.oneCell'=true:=by cases h<;>rfl
theorem aV {T ty e : TypeId} {ti : TypeInfo} (hu : P.underlying T = some (.slice e)) (hi : P.info? e = some ti) {base av : Option Addr} {n cap cap' : Nat} (hc : n ≤ cap) :
    (Builtin.append_ #[T,T] ty #[.slice base n cap,.slice av 0 cap']).run P w=.ok (.slice base n cap) w:=by
  cases av<;>cases base<;>simp [Builtin.append_,run_underlying hu,sizeOf,typeInfo,hi,Builtin.lenOf,hc,Builtin.firstCells,loadCells,loadCellsFrom,storeCells]
theorem dn {T ty e : TypeId} {ti : TypeInfo} {z : Value} (hu : P.underlying T = some (.slice e)) (hi : P.info? e = some ti) (hz : ti.zero = some z) {base : Option Addr} {n cap m c b off : Nat} {olds news : List Value}
    (hlo:olds.length=n * ti.size) (holds:∀ b,base=some b→∀ j v,olds[j]?=some v→w.cell? (b.add j)=some v) (hnb:base=none→n=0∧cap=0)
    (hl:news.length=m * ti.size) (hnews:∀ j v,news[j]?=some v→w.cell? ((⟨b,off,none⟩:Addr).add j)=some v)
    (hg:cap<n+m) (h63:((n+m:Nat):Int)≤9223372036854775807) (h47:(n+m) * ti.bytes≤140737488355328) :
    (Builtin.append_ #[T,T] ty #[.slice base n cap,.slice (some ⟨b,off,none⟩) m c]).run P w =
      .ok (.slice (some ⟨w.heap.size,0,none⟩) (n+m) (grownCap w (n+m) cap e)) (w.drew.alloc (.cells (olds.toArray++news.toArray++Builtin.zeroCells z.cells (grownCap w (n+m) cap e - (n+m))) e)):=by
  cases base with
  | some bb=>exact run_append_grow (P:=P) w T ty e ti z hu hi hz bb n cap olds hlo (holds bb rfl) ⟨b,off,none⟩ m c news hl hnews hg h63 (growslice_fits hg h47)
  | none =>
    obtain ⟨rfl,rfl⟩:=hnb rfl;have h0:olds=[]:=List.eq_nil_of_length_eq_zero (by simpa using hlo);subst h0;have:=run_append_nil (P:=P) w T ty e ti z hu hi hz ⟨b,off,none⟩ m c news hl hnews (by omega) (by simpa using h63) (by simp only [Nat.zero_add] at h47;omega);simpa using this
theorem Wb {P:Program}:∀ {ts:List TypeId},Xo P ts=0→∀ t'∈ts,∀ e,AH P t'≠.sl e
 | [],_,t',ht',_=>by simp at ht'
 | t::ts,h0,t',ht',e2=>by
  simp only [Xo] at h0
  rcases List.mem_cons.1 ht' with rfl | ht'
  ·intro he2;rw [he2] at h0;simp at h0
  ·exact Wb (by omega) t' ht' e2
end
section
variable {E:Env} {N:Nat} {P:Program} {n0:Nz} {nt:Nat} {β:Nat→Option Nat} {σ:Nat→Option (Nat×Nat)} {s s':St0 E N} {a:Act} {w w':World}
theorem fg (m : Mem P n0 β σ s w) {id : Nat} (hf : Fresh a s id) {pre : List (Nat × Option (HEnt (std E N)))} (hpre : PreOK s pre) {h : HEnt (std E N)} {wr : Wr (std E N)}
    (ht0:wr.ts=[]) (hb:wr.bs=[]) (hh:wr.hs=pre++[(id,some h)]) (hd:h.dirty=true) (hl:h.l=[]) {t:TypeId} {ts:List TypeId}
    (ht:AH P t=.sl h.e) (hts:AM P h.e=some ts) :
    Mem P n0 β (upd σ id none) (s.apply wr) w∧Ext P (·=id) β σ s w β (upd σ id none) (s.apply wr) w∧Tidy a (·=id) s (s.apply wr)∧(s.apply wr).getH id=some h:=by
  have gB:=fun n=>State.getB_apply0 s wr hb n
  have gs:∀ n,(s.apply wr).getH n=if n=id then some h else (s.apply { hs:=pre }).getH n:=fun n=>by
    unfold State.apply State.getH;simp only [hh,DB,Ay];exact As _ _ _ _
  have fget:∀ n h',n≠id→(s.apply wr).getH n=some h'→∃ h0,s.getH n=some h0∧(h'=h0∨h'={ h0 with frozen:=true,dirty:=true }):=fun n h' hn he=>by
    rw [gs,if_neg hn] at he;exact hpre.get rfl n h' he
  have hget:(s.apply wr).getH id=some h:=by rw [gs,if_pos rfl]
  have x:Ext P (·=id) β σ s w β (upd σ id none) (s.apply wr) w:=by
    refine ⟨rfl,rfl,rfl,Nat.le_refl _,fun b hb _=>rfl,fun b hb=>?_,fun b e he hn=>?_,fun n e he hn=>?_⟩
    · rcases hb with ⟨n,e,he,hb⟩ | ⟨n,e,cap',he,hfz,hb⟩
      · rw [gB] at he;exact .inl (.inl ⟨n,e,he,hb⟩)
      · by_cases hid:n=id
        · rw [hid,Ai] at hb;cases hb
        · obtain ⟨h0,hh0,h1⟩:=fget n e hid he;rw [Ah _ _ hid] at hb
          rcases h1 with rfl | rfl
          · exact .inl (.inr ⟨n,e,cap',hh0,hfz,hb⟩)
          · cases hfz
    · rw [gB] at he;exact ⟨⟨e,he⟩,rfl⟩
    · obtain ⟨h0,hh0,h1⟩:=fget n e hn he;refine ⟨h0,hh0,Ah _ _ hn,?_⟩
      rcases h1 with rfl | rfl<;>exact ⟨rfl,fun _=>rfl⟩
  refine ⟨Qg (id:=id) m x (fun n e he=>?_) (fun n e blk he hb=>rfl) (fun n h' hn he=>?_) (fun n h' blk cap' hn he hs=>rfl) (fun h' he=>?_) (fun blk cap' hs=>?_),x,⟨fun n hfn hn=>?_,fun n e he hd'=>?_,fun n e he hd'=>?_⟩,hget⟩
  · rw [gB] at he;exact ⟨e,he,rfl,fun k hk h=>(hf.b n e he).2 (h▸hk)⟩
  · obtain ⟨h0,hh0,h1⟩:=fget n h' hn he;refine ⟨h0,hh0,?_⟩
    rcases h1 with rfl | rfl
    · exact ⟨rfl,rfl,rfl,fun h=>h,Ah _ _ hn⟩
    · exact ⟨rfl,rfl,rfl,(fun h=>by cases h),Ah _ _ hn⟩
  · rw [hget] at he;cases he;exact .inl ⟨t,ts,ht,hts,by rw [hl];simp,.inl ⟨Ai _ _ _,hl⟩⟩
  · rw [Ai] at hs;cases hs
  · refine ⟨fun k tv hk=>?_,fun k e he=>?_,fun k e he=>?_⟩
    · rw [State.getT_apply0 s wr ht0] at hk;exact hfn.t k tv hk
    · rw [gB] at he;exact hfn.b k e he
    · by_cases hk:k=id
      · exact fun h=>hn (h.trans hk)
      · obtain ⟨h0,hh0,_⟩:=fget k e hk he;exact hfn.h k h0 hh0
  · rw [gB] at he;exact he
  · by_cases hk:n=id
    · rw [hk,hget] at he;cases he;rw [hd] at hd';cases hd'
    · obtain ⟨h0,hh0,h1⟩:=fget n e hk he
      rcases h1 with rfl | rfl
      · exact hh0
      · cases hd'
theorem Zn (m : Mem P n0 β σ s w) {id : Nat} (hf : Fresh a s id) {i blk cap : Nat} {h0 : HEnt (std E N)} (hi : s.getH i = some h0) (hfz0 : h0.frozen = false) (hsi : σ i = some (blk, cap))
    {h:HEnt (std E N)} {wr:Wr (std E N)} (ht0:wr.ts=[]) (hb:wr.bs=[]) (hh:wr.hs=[(i,none),(id,some h)]) (hd:h.dirty=true) (hz:h.frozen=false)
    (ho:w'.os=w.os) (htp:w'.tape=w.tape) (hout:w'.output=w.output) (hsize:w'.heap.size=w.heap.size) (hother:∀ b,b≠blk→w'.heap[b]?=w.heap[b]?)
    {cells:Array Value} (hheap:w'.heap[blk]?=some (.cells cells h.e (0,0))) {t:TypeId} {ts:List TypeId}
    (ht:AH P t=.sl h.e) (hts:AM P h.e=some ts) (hrl:∀ r∈h.l,r.length=ts.length) (hsz:cells.size=cap * ts.length) (hcap:h.l.length≤cap) (hnw:Old n0 h.nw ⟨blk,true⟩)
    (v:Nat→Nat→Value) (hv:∀ i j,i<h.l.length→j<ts.length→cells[i * ts.length+j]?=some (v i j))
    (hrep:∀ i j t',i<h.l.length→ts[j]?=some t'→Rep P w (StB n0 β σ s h.nw) t' (v i j) (AF h.l i j)) :
    Mem P n0 β (upd σ id (some (blk,cap))) (s.apply wr) w'∧Ext P (·=id) β σ s w β (upd σ id (some (blk,cap))) (s.apply wr) w'∧Tidy a (·=id) s (s.apply wr) ∧
      (s.apply wr).getH id=some h:=by
  have gB:=fun n=>State.getB_apply0 s wr hb n
  have hii:i≠id:=fun e=>hf.h i h0 hi e.symm
  have gs:∀ n,(s.apply wr).getH n=if n=id then some h else if n=i then none else s.getH n:=fun n=>by
    unfold State.apply State.getH;simp only [hh,Ay];rw [As,As]
  have fget:∀ n h',n≠id→(s.apply wr).getH n=some h'→n≠i∧s.getH n=some h':=fun n h' hn he=>by
    rw [gs,if_neg hn] at he
    by_cases hni:n=i
    · rw [if_pos hni] at he;cases he
    · rw [if_neg hni] at he;exact ⟨hni,he⟩
  have hget:(s.apply wr).getH id=some h:=by rw [gs,if_pos rfl]
  have hin:InM β σ s blk:=.inr ⟨i,h0,cap,hi,hfz0,hsi⟩;have x:Ext P (·=id) β σ s w β (upd σ id (some (blk,cap))) (s.apply wr) w':=by
    refine ⟨ho,htp,hout,by omega,fun b hb hm=>hother b (fun e=>hm (e▸hin)),fun b hb=>.inl ?_,fun b e he hn=>?_,fun n e he hn=>?_⟩
    · rcases hb with ⟨n,e,he,hb⟩ | ⟨n,e,cap',he,hfz,hb⟩
      · rw [gB] at he;exact .inl ⟨n,e,he,hb⟩
      · by_cases hid:n=id
        · rw [hid,Ai] at hb;cases hb;exact hin
        · obtain ⟨_,hh0⟩:=fget n e hid he;rw [Ah _ _ hid] at hb;exact .inr ⟨n,e,cap',hh0,hfz,hb⟩
    · rw [gB] at he;exact ⟨⟨e,he⟩,rfl⟩
    · obtain ⟨_,hh0⟩:=fget n e hn he;exact ⟨e,hh0,Ah _ _ hn,rfl,fun _=>rfl⟩
  refine ⟨Qg (id:=id) m x (fun n e he=>?_) (fun n e blk' he hb=>?_) (fun n h' hn he=>?_) (fun n h' blk' cap' hn he hs=>?_) (fun h' he=>?_) (fun blk' cap' hs=>?_),x,⟨fun n hfn hn=>?_,fun n e he hd'=>?_,fun n e he hd'=>?_⟩,hget⟩
  · rw [gB] at he;exact ⟨e,he,rfl,fun k hk h=>(hf.b n e he).2 (h▸hk)⟩
  · rw [gB] at he;exact hother blk' (fun e2=>m.uX n e i h0 blk cap he hi (e2▸hb) hsi)
  · obtain ⟨_,hh0⟩:=fget n h' hn he;exact ⟨h',hh0,rfl,rfl,rfl,fun h=>h,Ah _ _ hn⟩
  · obtain ⟨hni,hh0⟩:=fget n h' hn he;exact hother blk' (fun e2=>hni (m.uH n i h' h0 blk cap' cap hh0 hi (e2▸hs) hsi))
  · rw [hget] at he;cases he;exact .inl ⟨t,ts,ht,hts,hrl,.inr ⟨blk,cap,cells,h.e,Ai _ _ _,hheap,rfl,hsz,hcap,hnw,v,hv,fun i j t' hi hj=>x.rep (hrep i j t' hi hj)⟩⟩
  · rw [Ai] at hs;cases hs;refine ⟨fun n e he hb=>?_,fun n h' cap'' hn he hs=>?_⟩
    · rw [gB] at he;exact m.uX n e i h0 blk cap he hi hb hsi
    · obtain ⟨hni,hh0⟩:=fget n h' hn he;exact hni (m.uH n i h' h0 blk cap'' cap hh0 hi hs hsi)
  · refine ⟨fun k tv hk=>?_,fun k e he=>?_,fun k e he=>?_⟩
    · rw [State.getT_apply0 s wr ht0] at hk;exact hfn.t k tv hk
    · rw [gB] at he;exact hfn.b k e he
    · by_cases hk:k=id
      · exact fun h=>hn (h.trans hk)
      · obtain ⟨_,hh0⟩:=fget k e hk he;exact hfn.h k e hh0
  · rw [gB] at he;exact he
  · by_cases hk:n=id
    · rw [hk,hget] at he;cases he;rw [hd] at hd';cases hd'
    · exact (fget n e hk he).2
theorem lD (hs : Sim P n0 nt β σ s a w) {ctx : List (Nat × Bool)} (hf : Facts a ctx) {id : Nat} (hid : Fresh a s id) {o : Oper} {c : Call}
    (hop:o.op=.call c) (hb:c.callee=.builtin .append) {as:List Bool} {r:AC0 E N} {wr:Wr (std E N)} {m m':Nat} (h:RM.run s (IK P ctx id (.call c)) m=.ok ((as,r,wr),m')) (has:∀ b∈as,b=true) :
    Ot P n0 β σ s a w o id r wr:=by
  obtain ⟨callee,args,argTypes⟩:=c;simp only at hb;subst hb;simp only [IK] at h
  split at h
  case h_2=>exact (zzb h).elim
  rename_i x y T U hcal ha hT
  split at h
  case h_2=>exact (zzb h).elim
  rename_i e e' heT heU;obtain ⟨_,m1,h1,h2⟩:=zza h;obtain ⟨ca,m2,h3,h4⟩:=zza h2;obtain ⟨cb,m3,h5,h6⟩:=zza h4;obtain ⟨⟨eb,lb,nb'⟩,m4,h7,h8⟩:=zza h6;have hTU:=AA.1 (zzd h1);subst hTU;have ha':args=#[x,y]:=by apply Array.ext';simpa using ha
  have hT':argTypes=#[T,T]:=by apply Array.ext';simpa using hT
  subst ha';subst hT';have hu:=Nn heT;obtain ⟨hca,_,_⟩:=Ba hs hf h3;obtain ⟨hcb,_,_⟩:=Ba hs hf h5;simp only at h8
  split at h8
  case h_2=>exact (zzb h8).elim
  rename_i ti ts z hi hts0 hz0;obtain ⟨_,m5,h9,h10⟩:=zza h8;have hg9:=zzd h9;simp only [zzk] at hg9;have heb:=AA.1 hg9.1;have hzl0:=AA.1 hg9.2;subst heb;obtain ⟨av,capb,ts1,u,hvb,hcb2,hts,hrlb,hmb,hrb⟩:=oz hs.M hcb h7;have hnn:ts=ts1:=by rw [hts] at hts0;exact (Option.some.inj hts0).symm
  clear hts0;subst hnn;obtain ⟨hsz,hpos⟩:=B9 hts;obtain ⟨ti',zv,hi',hiz,hzv,hrz,hnz,hoz⟩:=JO (n0:=n0) (β:=β) (σ:=σ) (s:=s) (w:=w) hz0;rw [hi] at hi';cases hi';have htz:ti.size=ts.length:=by rw [← hsz];simp [Program.cellsOf,hi]
  have hex:(execOp a.eval o)=(do pure (.value (← Builtin.append_ #[T,T] o.type #[a.eval x,a.eval y]))):=by
    simp [execOp,hop,resolve,invoke,builtin]
  have hflat:∀ nb:Bool,(nb=true→(nb'||bO P e)=true)→nb=true→nb'=true∨∀ t'∈ts,∀ e,AH P t'≠.sl e:=fun nb hn hb=>by
    have:=hn hb;simp only [Bool.or_eq_true] at this
    rcases this with h | h
    · exact .inl h
    · right
      unfold bO at h;rw [hts] at h;exact Wb (AA.1 h)
  have main : ∀ (pre : List (Nat × Option (HEnt (std E N)))) (nwa : Bool) (la : Rows) (base : Option Addr) (cap : Nat) (v0 : Nat → Nat → Value),
      a.eval x=.slice base la.length cap→la.length≤cap→PreOK s pre→(∀ r∈la,r.length=ts.length) →
      (∀ i j t',i<la.length→ts[j]?=some t'→Rep P w (StB n0 β σ s nwa) t' (v0 i j) (AF la i j)) →
      ((la=[]∧cap=0)∨∃ blk cells i h,base=some ⟨blk,0,none⟩∧w.heap[blk]?=some (.cells cells e (0,0))∧cells.size=cap * ts.length ∧
        (∀ i j,i<la.length→j<ts.length→cells[i * ts.length+j]?=some (v0 i j))∧s.getH i=some h∧h.frozen=false∧σ i=some (blk,cap)∧pre=[(i,none)]∧Old n0 nwa ⟨blk,true⟩) →
      ((la++lb).length:Int)≤17592186044416→((la++lb).length:Int) * ti.bytes≤17592186044416 →
      ∀ nw,(nw=true→nwa=true∧(nb'||bO P e)=true) →
      Ot P n0 β σ s a w o id (.own e id) { hs:=pre++[(id,some { e,frozen:=false,nw,l:=la++lb,dirty:=true })] }:=by
    intro pre nwa la base cap v0 hva hcap hpre hrla hra hmem hlen hby nw hnw;have hbytes:(la.length+lb.length) * ti.bytes≤140737488355328:=by
      have:((la.length+lb.length:Nat):Int) * (ti.bytes:Int)≤17592186044416:=by rw [List.length_append] at hby;exact hby
      have h3:(((la.length+lb.length) * ti.bytes:Nat):Int)≤17592186044416:=by rw [Int.natCast_mul];exact this
      omega
    have hrl:∀ r∈la++lb,r.length=ts.length:=fun r hr=>(List.mem_append.1 hr).elim (hrla r) (hrlb r)
    have hpvl:∀ i j,i<la.length→AF (la++lb) i j=AF la i j:=fun i j hi=>by simp [AF,AK,List.getD,List.getElem?_append_left hi]
    have hpvr:∀ i j,la.length≤i→AF (la++lb) i j=AF lb (i - la.length) j:=fun i j hi=>by simp [AF,AK,List.getD,List.getElem?_append_right hi]
    have hrb':=hrb nw (hflat nw (fun h=>(hnw h).2));have hra':∀ i j t',i<la.length→ts[j]?=some t'→Rep P w (StB n0 β σ s nw) t' (v0 i j) (AF la i j):=fun i j t' hi hj =>
      (hra i j t' hi hj).st (fun b hb=>⟨hb.1,hb.2.mono (fun h=>(hnw h).1)⟩)
    let v:Nat→Nat→Value:=fun i j=>if i<la.length then v0 i j else u (i - la.length) j
    have hrep:∀ i j t',i<(la++lb).length→ts[j]?=some t'→Rep P w (StB n0 β σ s nw) t' (v i j) (AF (la++lb) i j):=fun i j t' hi hj=>by
      by_cases h:i<la.length
      · simp only [v,h,if_true];rw [hpvl i j h];exact hra' i j t' h hj
      · simp only [v,h,if_false];rw [hpvr i j (by omega)];exact hrb' (i - la.length) j t' (by rw [List.length_append] at hi;omega) hj
    have hsub:=hpre.sub (wr:={ hs:=pre }) rfl rfl
    let hnew:HEnt (std E N):={ e,frozen:=false,nw,l:=la++lb,dirty:=true }
    by_cases hm0:lb.length=0
    ·
      have hlb:lb=[]:=List.length_eq_zero_iff.1 hm0;have hrun:(Builtin.append_ #[T,T] o.type #[a.eval x,a.eval y]).run P w=.ok (.slice base la.length cap) w:=by
        rw [hva,hvb,hm0];exact aV hu hi hcap
      rcases hmem with ⟨hl0,hc0⟩ | ⟨blk,cells,i,h,hbase,hheap,hcs,hcells,hgi,hfz,hsi,hpr,hnb0⟩
      · obtain ⟨q1,q2,q3,q4⟩:=fg hs.M hid hpre (h:=hnew) (wr:={ hs:=pre++[(id,some hnew)] }) rfl rfl rfl rfl (by simp [hnew,hl0,hlb]) (Bm.2 hu) hts;refine ⟨_,β,_,_,Lz hex hrun,q1,q2,q3,?_,fun k _ hn=>by simpa [AC.names] using hn,rfl⟩;exact ⟨⟨_,Bm.2 hu,_,_,_,rfl⟩,fun h2 hh2=>by
          rw [q4] at hh2;cases hh2;exact ⟨rfl,.inr ⟨Ai _ _ _,by simp [hnew,hl0,hlb],base,by rw [hl0,hc0];rfl⟩⟩⟩
      · subst hpr;obtain ⟨q1,q2,q3,q4⟩:=Zn hs.M hid hgi hfz hsi (h:=hnew) (wr:={ hs:=[(i,none)]++[(id,some hnew)] }) rfl rfl rfl rfl rfl rfl rfl rfl rfl (fun _ _=>rfl) hheap (Bm.2 hu) hts hrl hcs
          (by simp [hnew,hlb];exact hcap) (hnb0.mono (fun h=>(hnw h).1)) v0 (fun i j hi hj=>hcells i j (by simpa [hnew,hlb] using hi) hj) (fun i j t' hi hj=>by
            have hi':i<la.length:=by simpa [hnew,hlb] using hi
            rw [show hnew.l=la++lb from rfl,hpvl i j hi'];exact hra' i j t' hi' hj)
        refine ⟨_,β,_,_,Lz hex hrun,q1,q2,q3,?_,fun k _ hn=>by simpa [AC.names] using hn,rfl⟩;rw [hbase];exact JT (Bm.2 hu) q4 (Ai _ _ _) (by simp [hnew,hlb])
    · obtain ⟨b, off, hav, hcell⟩ : ∃ b off, av = some ⟨b, off, none⟩ ∧ ∀ i j, i < lb.length → j < ts.length → w.cell? ⟨b, off + (i * ts.length + j), none⟩ = some (u i j) := by
        rcases hmb with h | h
        · rw [h] at hm0;simp at hm0
        · exact h
      subst hav
      by_cases hroom:la.length+lb.length≤cap
      · rcases hmem with ⟨hl0,hc0⟩ | ⟨blk,cells,i,h,hbase,hheap,hcs,hcells,hgi,hfz,hsi,hpr,hnb0⟩
        · omega
        · subst hpr;subst hbase;have hle:la.length * ts.length+lb.length * ts.length≤cells.size:=by
            rw [hcs,← Nat.add_mul];exact Nat.mul_le_mul_right _ hroom
          have hone:∀ v∈flat lb.length ts.length u,v.oneCell'=true:=qi hpos (fun i j hi hj=>by
            obtain ⟨t',ht'⟩:∃ t',ts[j]?=some t':=⟨ts[j],zzo hj⟩;exact (hrb false (fun h=>by cases h) i j t' hi ht').one)
          have hrun:=run_append_room (P:=P) (w:=w) T o.type e ti hu hi blk la.length cap cells hheap ⟨b,off,none⟩ lb.length capb (flat lb.length ts.length u) (by rw [B1,htz]) (UW hpos hcell) hone hroom
            (by rw [B1,htz];exact hle)
          rw [htz,B1] at hrun;have hlt:(cells.toList.take (la.length * ts.length)).length=la.length * ts.length:=by
            have hq:la.length * ts.length≤cells.size:=Nat.le_trans (Nat.le_add_right _ _) hle;rw [List.length_take];exact Nat.min_eq_left (by rw [Array.length_toList];exact hq)
          obtain ⟨q1,q2,q3,q4⟩:=Zn hs.M hid hgi hfz hsi (h:=hnew) (wr:={ hs:=[(i,none)]++[(id,some hnew)] }) rfl rfl rfl rfl rfl
            (w':=w.setRow blk (cells.toList.take (la.length * ts.length)++flat lb.length ts.length u++cells.toList.drop (la.length * ts.length+lb.length * ts.length)).toArray)
            rfl rfl rfl (by simp) (fun b hb=>setRow_other w blk b _ hb) (setRow_heap w blk cells _ _ _ hheap) (Bm.2 hu) hts hrl
            (by simp only [List.size_toArray,List.length_append,hlt,B1,List.length_drop,Array.length_toList];omega)
            (by simp [hnew];exact hroom) (hnb0.mono (fun h=>(hnw h).1)) v (fun i j hi hj=>by
              have hi':i<la.length+lb.length:=by simpa [hnew] using hi
              rw [List.getElem?_toArray,List.append_assoc]
              by_cases h:i<la.length
              · have h1:=Mo h hj;rw [List.getElem?_append_left (by rw [hlt];exact h1),List.getElem?_take,if_pos h1];simp only [v,h,if_true];rw [Array.getElem?_toList];exact hcells i j h hj
              · have e1:la.length * ts.length≤i * ts.length:=Nat.mul_le_mul_right _ (by omega);have e2:i * ts.length+j - la.length * ts.length=(i - la.length) * ts.length+j:=by rw [Nat.sub_mul];omega
                rw [List.getElem?_append_right (by rw [hlt];omega),hlt,e2,List.getElem?_append_left (by rw [B1];exact Mo (by omega) hj)];simp only [v,h,if_false];exact VM u (by omega) hj) hrep
          refine ⟨_,β,_,_,Lz hex (by rw [hva,hvb];exact hrun),q1,q2,q3,?_,fun k _ hn=>by simpa [AC.names] using hn,rfl⟩;exact JT (Bm.2 hu) q4 (Ai _ _ _) (by simp [hnew])
      ·
        have hnb:base=none→la.length=0∧cap=0:=fun hbn=>by
          rcases hmem with ⟨h1,h2⟩ | ⟨blk,_,_,_,h1,_⟩
          · exact ⟨by rw [h1];rfl,h2⟩
          · rw [hbn] at h1;cases h1
        have holds:∀ b,base=some b→∀ j v,(flat la.length ts.length v0)[j]?=some v→w.cell? (b.add j)=some v:=fun b hb=>by
          rcases hmem with ⟨h1,h2⟩ | ⟨blk,cells,i,h,h1,hheap,hcs,hcells,_⟩
          · intro j v hj;rw [h1] at hj;simp [flat] at hj
          · rw [hb] at h1;cases h1;exact UW hpos (fun i j hi hj=>by rw [Eg hheap,Nat.zero_add];exact hcells i j hi hj)
        have hrun:=dn (P:=P) (w:=w) (ty:=o.type) hu hi hiz (base:=base) (n:=la.length) (cap:=cap) (m:=lb.length) (c:=capb) (b:=b) (off:=off)
          (olds:=flat la.length ts.length v0) (news:=flat lb.length ts.length u) (by rw [B1,htz]) holds hnb (by rw [B1,htz]) (UW hpos hcell) (by omega) (by rw [List.length_append] at hlen;omega) hbytes
        have hge:=grownCap_ge w (la.length+lb.length) cap e;have hzl:zv.cells.size=ts.length:=by
          have h1:=RelCs.length hrz.1;simp at h1;omega
        have key:=eN hs.M hid hpre (h:=hnew) (wr:={ hs:=pre++[(id,some hnew)] }) rfl rfl rfl rfl rfl (Grow.drew w)
          (cells:=(flat la.length ts.length v0).toArray++(flat lb.length ts.length u).toArray++Builtin.zeroCells zv.cells (grownCap w (la.length+lb.length) cap e - (la.length+lb.length)))
          (cap:=grownCap w (la.length+lb.length) cap e) (t:=T) (ts:=ts) (Bm.2 hu) hts hrl
          (by simp only [Array.size_append,List.size_toArray,B1,size_zeroCells,hzl,← Nat.add_mul];congr 1;omega)
          (by simp only [hnew,List.length_append];exact hge) hs.n0le v
          (fun i j hi hj=>by
            have hi':i<la.length+lb.length:=by simpa [hnew] using hi
            rw [Array.getElem?_append_left (by simp only [Array.size_append,List.size_toArray,B1,← Nat.add_mul];exact Mo hi' hj)]
            by_cases h:i<la.length
            · rw [Array.getElem?_append_left (by simp only [List.size_toArray,B1];exact Mo h hj)];simp only [List.getElem?_toArray,v,h,if_true];exact VM v0 h hj
            · have e1:la.length * ts.length≤i * ts.length:=Nat.mul_le_mul_right _ (by omega);rw [Array.getElem?_append_right (by simp only [List.size_toArray,B1];omega)];simp only [List.size_toArray,B1,List.getElem?_toArray,v,h,if_false];have e2:i * ts.length+j - la.length * ts.length=(i - la.length) * ts.length+j:=by rw [Nat.sub_mul];omega
              rw [e2];exact VM u (by omega) hj)
          (fun i j t' hi hj=>(hrep i j t' hi hj).st (fun b hb=>⟨fun hm=>hb.1 (hsub.inM hm),hb.2⟩))
        obtain ⟨q1,q2,q3,q4⟩:=key;refine ⟨_,β,_,_,Lz hex (by rw [hva,hvb];exact hrun),q1,q2,q3,JT (Bm.2 hu) q4 (Ai _ _ _) (by simp [hnew]),fun k _ hn=>by simpa [AC.names] using hn,rfl⟩
  split at h10
  · rename_i ea;obtain ⟨_,m6,h11,h12⟩:=zza h10;have hea:=AA.1 (zzd h11);subst hea;have hr:=zzc h12;simp only [Prod.mk.injEq] at hr;obtain ⟨rfl,rfl,rfl⟩:=hr;obtain ⟨t0,ts1,_,_,av0,hva⟩:=hca;have hb:=U9 (n:=(lb.length:Int)) (b:=ti.bytes) (has _ zzm);have:=main [] true [] av0 0 (fun _ _=>undef) hva (Nat.le_refl _) (fun n v hm=>by simp at hm) (by simp) (fun i j t' hi=>by simp at hi) (.inl ⟨rfl,rfl⟩) (by simpa using hb.2.1) (by simpa using hb.2.2.1) (nb'||bO P e) (fun h=>⟨rfl,h⟩);simpa using this
  · rename_i ea i _;obtain ⟨m6,h11⟩:=zzf h10;cases hh:s.getH i with
    | none=>rw [hh] at h11;exact (zzb h11).elim
    | some hx =>
      rw [hh] at h11;obtain ⟨_,m7,h12,h13⟩:=zza h11;have hg:=zzd h12;simp only [zzk,Bool.not_eq_true'] at hg;obtain ⟨⟨hfz,hea⟩,heh⟩:=hg;have hea:=AA.1 hea;have heh:=AA.1 heh;have hr:=zzc h13;simp only [Prod.mk.injEq] at hr;obtain ⟨rfl,rfl,rfl⟩:=hr;have hb:=U9 (n:=((hx.l++lb).length:Int)) (b:=ti.bytes) (has _ zzm);obtain ⟨⟨te,hte,_⟩,hk⟩:=hca;obtain ⟨hee,ho⟩:=hk hx hh
      rcases hs.M.H i hx hh with ⟨t1,ts1,ht1,hts1,hrl1,hm1⟩ | hM
      case inr=>exact (hM.noSl (by rw [hee];exact hte)).elim
      rw [← heh,hts] at hts1;cases hts1;have hpre:PreOK s [(i,(none:Option (HEnt (std E N))))]:=fun n v hm=>by
        simp only [List.mem_singleton,Prod.mk.injEq] at hm;exact .inl hm.2
      rcases ho with ⟨blk,cap,hsi,hva⟩ | ⟨hsi,hz,av0,hva⟩
      · rcases hm1 with ⟨hn,_⟩ | ⟨blk',cap',cells,el,hs',hheap,hel,hsz1,hcap1,hnw1,u1,hu1,hrep1⟩
        · rw [hn] at hsi;cases hsi
        · rw [hs'] at hsi;cases hsi;subst hel;exact main [(i,none)] hx.nw hx.l _ cap u1 hva hcap1 hpre hrl1 hrep1
            (.inr ⟨blk,cells,i,hx,rfl,by rw [heh];exact hheap,hsz1,hu1,hh,hfz,hs',rfl,hnw1⟩) hb.2.1 hb.2.2.1 _ (fun h=>by simpa using h)
      · have hl0:hx.l=[]:=List.length_eq_zero_iff.1 hz;exact main [(i,none)] hx.nw hx.l av0 0 (fun _ _=>undef) (by rw [hva,hl0];rfl) (by rw [hl0];exact Nat.le_refl _) hpre hrl1 (fun i j t' hi=>by rw [hl0] at hi;simp at hi)
          (.inl ⟨hl0,rfl⟩) hb.2.1 hb.2.2.1 _ (fun h=>by simpa using h)
  · exact (zzb h10).elim
end
section
variable {E:Env} {N:Nat} {P:Program} {n0:Nz} {nt:Nat} {β:Nat→Option Nat} {σ:Nat→Option (Nat×Nat)} {s s':St0 E N} {a:Act} {w w':World}
theorem nU (hs : Sim P n0 nt β σ s a w) {ctx : List (Nat × Bool)} (hf : Facts a ctx) {id : Nat} (hid : Fresh a s id) {o : Oper} {src dst : TypeId} {x : Operand}
    (hop:o.op=.convert src dst x) {as:List Bool} {r:AC0 E N} {wr:Wr (std E N)} {m m':Nat} (h:RM.run s (IK P ctx id (.convert src dst x)) m=.ok ((as,r,wr),m')) :
    Ot P n0 β σ s a w o id r wr:=by
  simp only [IK] at h;obtain ⟨c,m1,h1,h2⟩:=zza h;obtain ⟨hc,_,_⟩:=Ba hs hf h1
  split at h2
  case h_2=>exact (zzb h2).elim
  rename_i e str hus hdst _
  split at h2
  case h_2=>exact (zzb h2).elim
  rename_i t he hts
  split at h2
  case h_2=>exact (zzb h2).elim
  rename_i ht;have hr:=zzc h2;simp only [Prod.mk.injEq] at hr;obtain ⟨rfl,rfl,rfl⟩:=hr;have hs1:=Uj hus;have hd1:=Bm.1 hdst;have he1:=Zl he;have hrun:=run_bytes_of_string (P:=P) w src dst e str hs1 hd1 he1;have hge:=grownCap_ge w str.size 0 e;generalize hcap:grownCap w str.size 0 e=cap at hrun hge;have g:Grow w (w.drew.alloc (.cells (bytesRow str cap) e ((bytesRow str cap).size,(bytesRow str cap).size+1))):=(Grow.drew w).trans (Grow.alloc _ _);have gB:=fun n=>State.getB_apply0 s ({}:Wr (std E N)) rfl n
  have gH:=fun n=>State.getH_apply0 s ({}:Wr (std E N)) rfl n
  have sub:Sub s (s.apply ({}:Wr (std E N))):=Sub.of_same gB gH;have hnew:(w.drew.alloc (.cells (bytesRow str cap) e ((bytesRow str cap).size,(bytesRow str cap).size+1))).heap[w.heap.size]?=some (.cells (bytesRow str cap) e ((bytesRow str cap).size,(bytesRow str cap).size+1)):=Kf w.drew _;refine ⟨_,β,σ,_,Lz (x:=convert src dst (a.eval x)) (by simp [execOp,hop]) (by rw [show a.eval x=.string str from hc];exact hrun),sub.mem (hs.M.grow g),?_,⟨fun n hf _=>?_,fun n b hb _=>by rw [gB] at hb;exact hb,fun n b hb _=>by rw [gH] at hb;exact hb⟩,?_,fun n _ _=>by simp [AC.names],rfl⟩
  · exact ((g.ext P (·=id) β σ s).trans (sub.ext P (·=id) β σ _)).weaken (fun n h=>h.elim (fun h=>h) (fun h=>h))
  · exact ⟨fun k tv hk=>by rw [State.getT_apply0 s _ rfl] at hk;exact hf.t k tv hk,fun k b hb=>by rw [gB] at hb;exact hf.b k b hb,fun k b hb=>by rw [gH] at hb;exact hf.h k b hb⟩
  · refine ⟨dst,hdst,.sl (fun i _=>.int .u8 ((str.data.toList.getD i 0).toNat:Int)) hdst hts (by simp [CQ]) (fun r hr=>?_) hge (.inr ⟨⟨w.heap.size,true⟩,0,rfl,⟨fun hm=>?_,Old.new hs.n0le⟩,⟨BM hnew,fun _ k _ hk=>?_⟩,fun i j hi hj=>?_⟩) (fun i j t' hi hj=>?_)⟩
    · obtain ⟨b,_,rfl⟩:=List.mem_map.1 hr;rfl
    · rcases hm with ⟨b,e1,he1,hb⟩ | ⟨i,h1,cap1,hh,_,hb⟩
      · have hb:β b=some w.heap.size:=hb;rw [gB] at he1;have:=hs.M.ltB he1 hb;omega
      · have hb:σ i=some (w.heap.size,cap1):=hb;rw [gH] at hh;have:=hs.M.ltH hh hb;omega
    · have hk:k<0+str.size * 1:=hk;have hz:str.size≤(bytesRow str cap).size:=by unfold bytesRow;rw [Array.size_append,Array.size_map];exact Nat.le_add_right _ _
      unfold World.frozen?;simp only [hnew];rw [decide_eq_false (by omega:¬ (bytesRow str cap).size≤k)];rfl
    · rw [Eg hnew];have hj0:j=0:=by simp at hj;exact hj
      subst hj0;have hi':i<str.data.size:=hi;have hi2:i<(str.data.map (fun b=>Value.int .u8 b.toNat)).size:=by simpa using hi'
      simp only [Nat.zero_add,List.length_singleton,Nat.mul_one,Nat.add_zero,bytesRow];rw [Array.getElem?_append_left hi2];simp [List.getD,Array.getElem?_eq_getElem hi']
    · have hj0:j=0:=by have:=(List.getElem?_eq_some_iff.1 hj).1;simp at this;exact this
      subst hj0;simp at hj;subst hj;have hi':i<str.data.size:=hi;have:AF (CQ str) i 0=.int ((str.data.toList.getD i 0).toNat:Int):=by
        have hi3:i<str.data.toList.length:=by simpa using hi'
        simp only [AF,AK,AD,CQ,List.getD,List.getElem?_map,zzo hi3];rfl
      rw [this];exact .int ht
theorem nI {t e:TypeId} {v:Value} (h:TW (O:=std E N) P t v=some (.nil e)):v=.slice none 0 0:=by
 unfold TW at h
 split at h<;>first | (cases h;done) | (split at h<;>cases h;done) | rfl
theorem qM {T : TypeId} {z : Val (std E N)} {v : Value} {i : TypeInfo} (hz : L5 (O := std E N) P T = some z) (hi : P.info? T = some i) (hiz : i.zero = some v) (hn : Sr z.cs = true) (hr : RelVal P n0 β σ s w z v) (hnm : AB z.cs = []) :
    RelCs P n0 β σ s w (aD T z.cs) v.cells.toList∧(∀ blk,BH blk v.cells T (aD T z.cs))∧AB (aD T z.cs)=[]:=by
  unfold aD
  split
  · rename_i e he;have hc:Oz P T v=some z:=by
      unfold L5 at hz;rw [hi] at hz;simp only [hiz] at hz;exact hz
    obtain ⟨cs,rfl⟩:∃ cs,v=.agg cs:=by
      unfold Oz at hc
      split at hc
      · exact ⟨_,rfl⟩
      · split at hc
        · cases hc;cases he
        · cases hc
    simp only [Oz] at hc
    split at hc
    case h_2=>cases hc
    rename_i ts hts
    split at hc
    case h_2=>cases hc
    rename_i l hl;cases hc;simp only at he;subst he;obtain ⟨h1,_⟩:=hr;have e1:(Value.agg cs).cells=cs:=rfl;rw [e1] at h1 ⊢;obtain ⟨l0⟩:=cs;simp only at h1 hl ⊢
    match l0,h1,hl with
    | [a,b],h1,hl =>
      have ha:a=.pointer none:=h1.1;have hb:b=.slice none 0 0:=by
        match ts,hl with
        | [],hl=>simp [JV] at hl
        | [t],hl=>simp only [JV] at hl;split at hl<;>simp_all
        | t::t'::r,hl =>
          simp only [JV] at hl
          split at hl
          · rename_i x y h3 h4
            split at h4
            · rename_i x' y' h5 h6;cases h4;simp only [Option.some.injEq,List.cons.injEq] at hl;exact nI (by rw [h5,hl.2.1])
            · cases h4
          · cases hl
      subst ha;subst hb;exact ⟨⟨rfl,h1.2.1,trivial⟩,fun blk=>⟨rfl,_,_,rfl,.inl rfl,.inl rfl⟩,rfl⟩
    | [],h1,_=>exact h1.elim
    | [_],h1,_=>exact h1.2.elim
    | _::_::_::_,h1,_=>exact h1.2.2.elim
  · exact ⟨hr.1,fun blk=>BH.of_noAny hn,hnm⟩
theorem qS (hs : Sim P n0 nt β σ s a w) {ctx : List (Nat × Bool)} (hf : Facts a ctx) {id : Nat} (hid : Fresh a s id) {o : Oper} {as : List Bool} {r : AC0 E N} {wr : Wr (std E N)} {m m' : Nat}
    (h:RM.run s (IK P ctx id o.op) m=.ok ((as,r,wr),m')) (has:∀ b∈as,b=true):Ot P n0 β σ s a w o id r wr:=by
  cases hop:o.op with
  | alloc T =>
    rw [hop] at h;simp only [IK] at h
    split at h
    · rename_i z hz;obtain ⟨_,m1,h1,h2⟩:=zza h;have hr:=zzc h2;simp only [Prod.mk.injEq] at hr;obtain ⟨rfl,rfl,rfl⟩:=hr;obtain ⟨ti,v,hi,hiz,hzv,hrz,hnz,hoz⟩:=JO (n0:=n0) (β:=β) (σ:=σ) (s:=s) (w:=w) hz;have hg:=zzd h1;rw [zzk] at hg;obtain ⟨q1,q2,q3⟩:=qM hz hi hiz hg.2 hrz hnz;refine gn hs hid (T:=T) q1 (fun n _=>by rw [q3];simp) q2 ?_;refine Lz (x:=Instr.alloc T true (.tuple #[])) (by simp [execOp,hop]) ?_;simp [Instr.alloc,hzv,newVar,newRow]
    · exact (zzb h).elim
  | box T x =>
    rw [hop] at h;simp only [IK] at h;obtain ⟨v,m1,h1,h2⟩:=zza h;obtain ⟨_,m2,h3,h4⟩:=zza h2;have hr:=zzc h4;simp only [Prod.mk.injEq] at hr;obtain ⟨rfl,rfl,rfl⟩:=hr;obtain ⟨hv,hn⟩:=Ik hs hf h1;refine gn hs hid (T:=T) hv.1 hn (fun _=>BH.of_noAny (zzd h3)) ?_;refine Lz (x:=Instr.box T (a.eval x)) (by simp [execOp,hop]) ?_;simp [Instr.box,newVar,newRow]
  | buildSlice T len parts=>rw [hop] at h;exact R6 hs hf hid hop h
  | makeSlice T len cap=>rw [hop] at h;exact dl hs hf hid hop h has
  | convert src dst x=>rw [hop] at h;exact nU hs hf hid hop h
  | call c =>
    rw [hop] at h;have hb:c.callee=.builtin .append:=by
      simp only [IK] at h
      split at h
      · rename_i hc _ _;exact hc
      · exact (zzb h).elim
    exact lD hs hf hid hop hb h has
  | _=>rw [hop] at h;exact (zzb h).elim
theorem ql (hs : Sim P n0 nt β σ s a w) {ctx : List (Nat × Bool)} (hf : Facts a ctx) {id : Nat} (hid : Fresh a s id) {o : Oper} {c : AC0 E N} {m m' : Nat}
    (h:RM.run s (rW P ctx id o.op) m=.ok (c,m')):Ot P n0 β σ s a w o id c ({}:Wr (std E N)):=by
  cases hop:o.op with
  | buildSlice T len parts =>
    rw [hop] at h;obtain ⟨⟨as,c1,w1⟩,m1,h1,h2⟩:=zza h;obtain ⟨z,β',σ',w',r1,r2,r3,r4,r5,r6,r7⟩:=R6 hs hf hid hop h1;simp only at h2
    split at h2
    case h_2=>exact (zzb h2).elim
    rename_i e q j hh hhs hbs
    split at h2
    case h_2=>exact (zzb h2).elim
    rename_i hg;have hr:=zzc h2;subst hr;simp only [zzk] at hg;have e1:=AA.1 hg.1;have e2:=AA.1 hg.2.1;have e3:=AA.1 hg.2.2;subst e1 e2 e3;have gH:∀ n,(s.apply w1).getH n=if n=j then some hh else s.getH n:=fun n=>by
      show AJ (Ay s.hp w1.hs) n=_;rw [hhs];show AJ (MP s.hp j (some hh)) n=_;rw [As];rfl
    have gB:∀ n,(s.apply w1).getB n=s.getB n:=fun n=>by
      show AJ (Ay s.bx w1.bs) n=_;rw [hbs];rfl
    have zB:=fun n=>State.getB_apply0 s ({}:Wr (std E N)) rfl n
    have zH:=fun n=>State.getH_apply0 s ({}:Wr (std E N)) rfl n
    have nq:∀ n h,s.getH n=some h→n≠j:=fun n h hn e=>hid.h n h hn e.symm
    have sub:Sub (s.apply w1) (s.apply ({}:Wr (std E N))):=⟨fun n e' he=>⟨e',by rw [gB];rw [zB] at he;exact he,rfl⟩,fun n h' he=>by
      rw [zH] at he;exact ⟨h',by rw [gH,if_neg (nq n h' he)];exact he,rfl,rfl,rfl,fun h=>h⟩⟩
    have hget:(s.apply w1).getH j=some hh:=by rw [gH,if_pos rfl]
    let fr:List (Nat×Option (HEnt (std E N))):=[(j,some { hh with frozen:=true,dirty:=true })]
    have run:RM.run (s.apply w1) (di (O:=std E N) (AC.own hh.e j)) 0=.ok ((.rows hh.l,fr,hh.nw),0 ||| CB (3 * j+2)):=by
      show RM.run (s.apply w1) (RM.h j _) 0=_;simp only [RM.run];rw [hget];rfl
    obtain ⟨k1,k2,k3⟩:=X1 r2 r5 run;have sf:=k1.sub (wr:=({ hs:=fr }:Wr (std E N))) rfl rfl;have sfH:∀ n,((s.apply w1).apply ({ hs:=fr }:Wr (std E N))).getH n=if n=j then some { hh with frozen:=true,dirty:=true } else s.getH n:=fun n=>by
      show AJ (MP (s.apply w1).hp j (some { hh with frozen:=true,dirty:=true })) n=_;rw [As]
      by_cases e:n=j
      · rw [if_pos e,if_pos e]
      · rw [if_neg e,if_neg e];have:=gH n;rw [if_neg e] at this;exact this
    have r5':=r5;obtain ⟨⟨t0,ht0,_⟩,_⟩:=r5';have rep:=k3 t0 _ (by rw [ht0];exact AA.2 rfl) sf (fun x hx h hn=>by
      simp [fr] at hx;subst hx;rw [sfH,if_pos rfl] at hn;cases hn;rfl) (fun x hx=>by
      simp [fr] at hx;subst hx;exact ⟨_,by rw [sfH,if_pos rfl]⟩) hh.nw (fun h=>h)
    have inc:∀ b,InM β' σ' (s.apply ({}:Wr (std E N))) b→InM β' σ' ((s.apply w1).apply ({ hs:=fr }:Wr (std E N))) b:=fun b hb=>by
      rcases hb with ⟨n,e,he,hb⟩ | ⟨n,h,cap,he,hfz,hb⟩
      · exact .inl ⟨n, e, by
          rw [zB] at he;show AJ (Ay (s.apply w1).bx []) n=_;exact (gB n).trans he,hb⟩
      · rw [zH] at he;exact .inr ⟨n,h,cap,by rw [sfH,if_neg (nq n h he)];exact he,hfz,hb⟩
    refine ⟨z,β',σ',w',r1,sub.mem r2,(r3.trans (sub.ext P (fun _=>False) β' σ' w')).weaken (fun n h=>h.elim (fun h=>h) (fun h=>h.elim)),⟨fun n hf _=>?_,fun n b hb _=>by rw [zB] at hb;exact hb,fun n b hb _=>by rw [zH] at hb;exact hb⟩,?_,fun n _ _=>by simp [AC.names],rfl⟩
    · exact ⟨fun k tv hk=>by rw [State.getT_apply0 s _ rfl] at hk;exact hf.t k tv hk,fun k b hb=>by rw [zB] at hb;exact hf.b k b hb,fun k b hb=>by rw [zH] at hb;exact hf.h k b hb⟩
    · exact ⟨t0,ht0,rep.st (fun b hb=>⟨fun hm=>hb.1 (inc _ hm),hb.2⟩)⟩
  | _=>rw [hop] at h;exact (zzb h).elim
end
section
variable {E:Env} {N:Nat} {P:Program} {n0:Nz} {nt:Nat} {β:Nat→Option Nat} {σ:Nat→Option (Nat×Nat)} {s s':St0 E N} {a:Act} {w w':World}
theorem SJ {cs r cs':List (AC0 E N)} {off n:Nat} (h:Cs cs off r=some cs') (hn:n∈AB cs'):n∈AB cs∨n∈AB r:=by
 obtain ⟨rfl,_⟩:=Em h;obtain ⟨c,hc,hm⟩:=BB.1 hn
 rcases List.mem_append.1 hc with hc | hc
 ·rcases List.mem_append.1 hc with hc | hc
  ·exact .inl (BB.2 ⟨c,List.mem_of_mem_take hc,hm⟩)
  ·exact .inr (BB.2 ⟨c,hc,hm⟩)
 ·exact .inl (BB.2 ⟨c,List.mem_of_mem_drop hc,hm⟩)
theorem lU (m : Mem P n0 β σ s w) {b : Nat} {e : BEnt (std E N)} {blk : Nat} {cells : Array Value} {el : TypeId} (he : s.getB b = some e) (hb : β b = some blk) (hheap : w.heap[blk]? = some (.cells cells el (0, 0)))
    {cs':List (AC0 E N)} {cells':Array Value} (hr:RelCs P n0 β σ s w cs' cells'.toList) (hcn:∀ n,Fresh a s n→n∉AB cs') (hbh:BH blk cells' el cs') {wr:Wr (std E N)} (ht0:wr.ts=[]) (hbs:wr.bs=[(b,some { cs:=cs',dirty:=true })]) (hhs:wr.hs=[]) :
    Mem P n0 β σ (s.apply wr) (w.setRow blk cells')∧Ext P (fun _=>False) β σ s w β σ (s.apply wr) (w.setRow blk cells')∧Tidy a (fun _=>False) s (s.apply wr):=by
  have gB:=fun n=>State.getB_apply1 s b (some { cs:=cs',dirty:=true }) wr hbs n
  have gH:=fun n=>State.getH_apply0 s wr hhs n
  have hin:InM β σ s blk:=.inl ⟨b,e,he,hb⟩;have hB:∀ n e',(s.apply wr).getB n=some e'→∃ e0,s.getB n=some e0:=fun n e' h=>by
    rw [gB] at h
    by_cases hn:n=b
    · exact ⟨e,by rw [hn];exact he⟩
    · rw [if_neg hn] at h;exact ⟨e',h⟩
  have oth:∀ k,k≠blk→(w.setRow blk cells').heap[k]?=w.heap[k]?:=fun k hk=>setRow_other w blk k _ hk
  have x:Ext P (fun _=>False) β σ s w β σ (s.apply wr) (w.setRow blk cells'):=by
    refine ⟨rfl,rfl,rfl,by simp,fun k hk hm=>oth k (fun h=>hm (h▸hin)),fun k hk=>.inl ?_,fun n e' h _=>⟨hB n e' h,rfl⟩,fun n h hh _=>by rw [gH] at hh;exact ⟨h,hh,rfl,rfl,fun _=>rfl⟩⟩
    rcases hk with ⟨n,e',h,hb'⟩ | ⟨i,h,cap,hh,hf,hs⟩
    · obtain ⟨e0,h0⟩:=hB n e' h;exact .inl ⟨n,e0,h0,hb'⟩
    · rw [gH] at hh;exact .inr ⟨i,h,cap,hh,hf,hs⟩
  refine ⟨⟨fun n e' h=>?_,fun i h hh=>?_,fun n n' e1 e2 k h1 h2=>?_,fun i i' h h' k c c' h1 h2=>?_,fun n e1 i h k c h1 h2 h3 h4=>?_⟩,x,⟨fun n hf _=>?_,fun n e' h hd=>?_,fun n e' h hd=>by rw [gH] at h;exact h⟩⟩
  · rw [gB] at h
    by_cases hn:n=b
    · rw [if_pos hn] at h;cases h;exact ⟨blk,cells',el,by rw [hn];exact hb,setRow_heap w blk cells _ _ _ hheap,x.relCs (fun _ _=>id) hr,hbh⟩
    · rw [if_neg hn] at h;obtain ⟨k,c1,el1,hk,hh,hr1,hbh1⟩:=m.B n e' h;exact ⟨k,c1,el1,hk,(oth k (fun e2=>hn (m.uB n b e' e blk h he (e2▸hk) hb))).trans hh,x.relCs (fun _ _=>id) hr1,hbh1⟩
  · rw [gH] at hh
    rcases m.H i h hh with ⟨t,ts,ht,hts,hrl,hm⟩ | hM
    case inr=>exact .inr (hM.view rfl rfl rfl (fun k cap hs=>oth k (fun e2=>m.uX b e i h blk cap he hh hb (e2▸hs))) (fun _ _ _ ho=>ho))
    refine .inl ⟨t,ts,ht,hts,hrl,?_⟩
    rcases hm with hm | ⟨k,cap,c1,el1,hs,hheap1,hel,hsz,hcap,hnw,v,hv,hrep⟩
    · exact .inl hm
    · exact .inr ⟨k,cap,c1,el1,hs,(oth k (fun e2=>m.uX b e i h blk cap he hh hb (e2▸hs))).trans hheap1,hel,hsz,hcap,hnw,v,hv,fun q j t' hq hj=>x.rep (hrep q j t' hq hj)⟩
  · obtain ⟨e3,h3⟩:=hB n e1 h1;obtain ⟨e4,h4⟩:=hB n' e2 h2;exact fun h5 h6=>m.uB n n' e3 e4 k h3 h4 h5 h6
  · rw [gH] at h1 h2;exact m.uH i i' h h' k c c' h1 h2
  · obtain ⟨e3,h5⟩:=hB n e1 h1;rw [gH] at h2;exact m.uX n e3 i h k c h5 h2 h3 h4
  · refine ⟨fun k tv hk=>?_,fun k e1 he1=>?_,fun k h hk=>?_⟩
    · rw [State.getT_apply0 s wr ht0] at hk;exact hf.t k tv hk
    · rw [gB] at he1
      by_cases hk:k=b
      · rw [if_pos hk] at he1;cases he1;exact ⟨by rw [hk];exact (hf.b b e he).1,hcn n hf⟩
      · rw [if_neg hk] at he1;exact hf.b k e1 he1
    · rw [gH] at hk;exact hf.h k h hk
  · rw [gB] at h
    by_cases hn:n=b
    · rw [if_pos hn] at h;cases h;cases hd
    · rw [if_neg hn] at h;exact h
def LL (cells:Array Value) (o:Nat) (us:List Value):Array Value:=(cells.toList.take o++us++cells.toList.drop (o+us.length)).toArray
theorem fA {cells:Array Value} {o:Nat} {us:List Value} (h:o+us.length≤cells.size):(LL cells o us).size=cells.size:=by
 simp only [LL,List.size_toArray,List.length_append,List.length_take,List.length_drop,Array.length_toList];omega
theorem jW {cells:Array Value} {o:Nat} {us:List Value} (h:o+us.length≤cells.size) (j:Nat):(LL cells o us)[j]?=if o≤j∧j<o+us.length then us[j - o]? else cells[j]?:=by
 have hl:(cells.toList.take o).length=o:=by rw [List.length_take];exact Nat.min_eq_left (by simp;omega)
 simp only [LL,List.getElem?_toArray,List.append_assoc]
 by_cases h1:j<o
 ·rw [List.getElem?_append_left (by rw [hl];exact h1),List.getElem?_take,if_pos h1,if_neg (by omega),Array.getElem?_toList]
 ·rw [List.getElem?_append_right (by rw [hl];omega),hl]
  by_cases h2:j<o+us.length
  ·rw [List.getElem?_append_left (by omega),if_pos ⟨by omega,h2⟩]
  ·rw [List.getElem?_append_right (by omega),if_neg (by omega),List.getElem?_drop,Array.getElem?_toList];congr 1;omega
theorem ig {T:TypeId} (h:0<P.cellsOf T):∃ ti,P.info? T=some ti∧ti.size=P.cellsOf T:=by
 unfold Program.cellsOf at h ⊢;cases hi:P.info? T with
 | none=>rw [hi] at h;simp at h
 | some ti=>exact ⟨ti,rfl,by simp⟩
theorem N6 {T : TypeId} {blk o : Nat} {cells : Array Value} {el : TypeId} {x : Value} {us : List Value} (hx : x.cells.toList = us) (hlen : us.length = P.cellsOf T) (hpos : 0 < us.length)
    (hheap:w.heap[blk]?=some (.cells cells el (0,0))) (hfit:o+us.length≤cells.size) (hone:∀ v∈us,v.oneCell'=true) :
    (Instr.storeAt T (.pointer (some ⟨blk,o,none⟩)) x).run P w=.ok () (w.setRow blk (LL cells o us)):=by
  obtain ⟨ti,hi,hsz⟩:=ig (P:=P) (T:=T) (by omega);have hst:=run_storeCells_at (P:=P) blk o el us 0 cells w hheap (by simpa using hfit) hone;have hcs:x.cells.size=ti.size:=by rw [hsz,← hlen,← hx];simp
  simp only [Nat.add_zero] at hst;simp [Instr.storeAt,Instr.sureAddr,storeVar,sizeOf,typeInfo,hi,hcs,hx,hst,LL,List.append_assoc]<;>simp [List.append_assoc] at hst<;>exact hst
theorem uD {α:Type} {l:List α} {o n m:Nat} (h:o+m≤l.length) (hn:n=m):l.take o++(l.drop o).take n++l.drop (o+((l.drop o).take n).length)=l:=by
 have:((l.drop o).take n).length=n:=by rw [List.length_take,List.length_drop];omega
 rw [this,List.append_assoc,← List.drop_drop,List.take_append_drop,List.take_append_drop]
theorem ZV {off sz inner : Nat} {i : Int} {v : List (AC0 E N)} {us : List Value} (hv : RelCs P n0 β σ s w v us) (hpos : 0 < v.length) (h0 : 0 ≤ i) : ∀ {k : Nat} {cs cs' : List (AC0 E N)} {vs : List Value}, ji (O := std E N) off sz inner i v k cs = some cs' → RelCs P n0 β σ s w cs vs →
    RelCs P n0 β σ s w cs' (if i<(k:Int) then vs.take (off+i.toNat * sz+inner)++us++vs.drop (off+i.toNat * sz+inner+us.length) else vs)∧(∀ n,n∈AB cs'→n∈AB cs)∧(i<(k:Int)→off+i.toNat * sz+inner+us.length≤vs.length)
  | 0,cs,cs',vs,h,hc=>by
    simp only [ji] at h;cases h;have:¬ i<((0:Nat):Int):=by omega
    rw [if_neg this];exact ⟨hc,fun _ h=>h,fun h=>absurd h this⟩
  | k+1,cs,cs',vs,h,hc=>by
    simp only [ji] at h
    split at h
    · cases h
    · rename_i old hold
      split at h
      · cases h
      · rename_i new hnew
        split at h
        · cases h
        · rename_i cs1 hrep;obtain ⟨ho1,ho2⟩:=C0 hold;have hlv:=RelCs.length hv;have hlc:=RelCs.length hc;have hnames:∀ n,n∈AB cs1→n∈AB cs:=fun n hn=>by
            rcases SJ hrep hn with h | h
            · exact h
            · rw [Kx hnew] at h;simp at h
          have hfit:off+k * sz+inner+us.length≤vs.length:=by
            have:=congrArg List.length ho1;rw [ho2,List.length_take,List.length_drop] at this;omega
          by_cases hik:i=(k:Int)
          · have hb:(i==(k:Int))=true:=by simp [hik]
            have hi2:i.toNat=k:=by omega
            have h1:=Hu (vs:=us) hnew (fun _=>hv) (fun h=>by rw [hb] at h;cases h);have h2:=Kl hrep hc h1.1;obtain ⟨r1,r2,r3⟩:=ZV hv hpos h0 h h2;have hlt:¬ i<(k:Int):=by omega
            rw [if_neg hlt] at r1;rw [if_pos (by omega),hi2];exact ⟨r1,fun n hn=>hnames n (r2 n hn),fun _=>hfit⟩
          · have hb:(i==(k:Int))=false:=by simp [hik]
            have h1:=Hu (vs:=(vs.drop (off+k * sz+inner)).take v.length) hnew (fun h=>by rw [hb] at h;cases h) (fun _=>by rw [ho1];exact RelCs.take _ (RelCs.drop _ hc));have h2:=Kl hrep hc h1.1;rw [uD hfit hlv] at h2;obtain ⟨r1,r2,r3⟩:=ZV hv hpos h0 h h2
            by_cases hlt:i<(k:Int)
            · rw [if_pos hlt] at r1;rw [if_pos (by omega)];exact ⟨r1,fun n hn=>hnames n (r2 n hn),fun _=>r3 hlt⟩
            · rw [if_neg hlt] at r1;rw [if_neg (by omega)];exact ⟨r1,fun n hn=>hnames n (r2 n hn),fun h=>by omega⟩
theorem VT:∀ (ps:List PV) (r:List PV) (off:Nat),(A4 r off ps).length=r.length
 | [],r,off=>rfl
 | p::ps,r,off=>by simp [A4,VT ps]
theorem cu:∀ (ps:List PV) (r:List PV) (off j:Nat),off+ps.length≤r.length→(A4 r off ps)[j]?=if off≤j∧j<off+ps.length then ps[j - off]? else r[j]?
 | [],r,off,j,_=>by
  have:¬ (off≤j∧j<off+([]:List PV).length):=by simp
  rw [if_neg this];rfl
 | p::ps,r,off,j,h=>by
  simp only [List.length_cons] at h;simp only [A4];rw [cu ps (r.set off p) (off+1) j (by simp;omega)]
  by_cases h1:j=off
  ·subst h1;rw [if_neg (by omega),if_pos ⟨Nat.le_refl _,by simp⟩,Nat.sub_self];simp only [List.getElem?_cons_zero];rw [List.getElem?_set_self (by omega)]
  ·rw [List.getElem?_set_ne (fun e=>h1 e.symm)]
   by_cases h2:off≤j∧j<off+(ps.length+1)
   ·rw [if_pos (by omega),if_pos (by simpa using h2)];obtain ⟨k,hk⟩:∃ k,j - off=k+1:=⟨j - off - 1,by omega⟩;rw [hk,List.getElem?_cons_succ];congr 1;omega
   ·rw [if_neg (by omega),if_neg (by simpa using h2)]
theorem DU {α:Type} {k:Nat}:∀ {ws:List (Nat×Option α)} {l:List (Nat×α)},k∉ws.map (·.1)→AJ (Ay l ws) k=AJ l k
 | [],l,_=>rfl
 | (n,v)::ws,l,h=>by
  simp only [List.map_cons,List.mem_cons,not_or] at h;simp only [Ay];rw [DU h.2,As,if_neg h.1]
theorem rC {l:Rows} {i i' j:Nat} {r:List PV} (hi:i<l.length):AF (l.set i r) i' j=if i'=i then AD r j else AF l i' j:=by
 unfold AF AK
 by_cases h:i'=i
 ·subst h;simp [List.getD,List.getElem?_set_self hi]
 ·rw [if_neg h];simp only [List.getD];rw [List.getElem?_set_ne (fun e=>h e.symm)]
theorem na {ps r:List PV} {off j:Nat} (h:off+ps.length≤r.length):AD (A4 r off ps) j=if off≤j∧j<off+ps.length then AD ps (j - off) else AD r j:=by
 unfold AD;simp only [List.getD];rw [cu ps r off j h]
 split<;>rfl
theorem mP (hn0 : n0.n ≤ w.heap.size) (m : Mem P n0 β σ s w) {T : TypeId} {p : AC0 E N} {pv x : Value} {v : List (AC0 E N)} {wr : Wr (std E N)} {k k' : Nat} (hp : RelC P n0 β σ s w p pv) (hv : RelCs P n0 β σ s w v x.cells.toList)
    (hvn:∀ n,Fresh a s n→n∉AB v) (h:RM.run s (lr P T v p) k=.ok (wr,k')) :
    ∃ w',(Instr.storeAt T pv x).run P w=.ok () w'∧Mem P n0 β σ (s.apply wr) w'∧Ext P (fun _=>False) β σ s w β σ (s.apply wr) w'∧Tidy a (fun _=>False) s (s.apply wr)∧wr.ts=[]:=by
  have hlv:=RelCs.length hv;have hone:=RelCs.one hv;cases p with
  | ptr b off =>
    obtain ⟨k1,h⟩:=zzg h;cases he:s.getB b with
    | none=>rw [he] at h;exact (zzb h).elim
    | some e =>
      rw [he] at h;obtain ⟨_,k2,h1,h2⟩:=zza h;obtain ⟨cs,k3,h3,h4⟩:=zza h2;obtain ⟨_,k4,hna,h4⟩:=zza h4;have hna:=zzd hna;cases zzc h4;have hg:=zzd h1;simp only [zzk] at hg;have hlen:=AA.1 hg.1;have hpos:0<v.length:=Nat.le_of_ble_eq_true hg.2;have hrep:=zzh h3;obtain ⟨blk,rfl,hbk⟩:=hp;have hb:=hbk e he;obtain ⟨blk',cells,el,hb',hheap,hrc,_⟩:=m.B b e he;rw [hb] at hb';cases hb';have hfit:off+x.cells.toList.length≤cells.size:=by
        have h1:=RelCs.length hrc
        rcases (Em hrep).2 with h | h
        · rw [h] at hpos;simp at hpos
        · rw [Array.length_toList] at h1;omega
      have hr:=Kl hrep hrc hv;obtain ⟨q1,q2,q3⟩:=lU m he hb hheap (cs':=cs) (cells':=LL cells off x.cells.toList) (by simpa [LL] using hr)
        (fun n hn hm=>(SJ hrep hm).elim (hn.b b e he).2 (hvn n hn)) (BH.of_noAny hna) (wr:={ bs:=[(b,some { cs,dirty:=true })] }) rfl rfl rfl
      exact ⟨_,N6 rfl (by omega) (by omega) hheap hfit hone,q1,q2,q3,rfl⟩
  | aptr b off n sz i inner =>
    obtain ⟨k1,h⟩:=zzg h;cases he:s.getB b with
    | none=>rw [he] at h;exact (zzb h).elim
    | some e =>
      rw [he] at h;obtain ⟨_,k2,h1,h2⟩:=zza h;obtain ⟨cs,k3,h3,h4⟩:=zza h2;obtain ⟨_,k4,hna,h4⟩:=zza h4;have hna:=zzd hna;cases zzc h4;have hg:=zzd h1;simp only [zzk] at hg;have hlen:=AA.1 hg.1;have hpos:0<v.length:=Nat.le_of_ble_eq_true hg.2;have hrep:=zzh h3;obtain ⟨h0,hi,blk,rfl,hbk⟩:=hp;have hb:=hbk e he;obtain ⟨blk',cells,el,hb',hheap,hrc,_⟩:=m.B b e he;rw [hb] at hb';cases hb';obtain ⟨r1,r2,r3⟩:=ZV hv hpos h0 hrep hrc;rw [if_pos hi] at r1;have hfit:=r3 hi;rw [Array.length_toList] at hfit;obtain ⟨q1,q2,q3⟩:=lU m he hb hheap (cs':=cs) (cells':=LL cells _ x.cells.toList) (by simpa [LL] using r1)
        (fun n hn hm=>(hn.b b e he).2 (r2 n hm)) (BH.of_noAny hna) (wr:={ bs:=[(b,some { cs,dirty:=true })] }) rfl rfl rfl
      exact ⟨_,N6 rfl (by omega) (by omega) hheap hfit hone,q1,q2,q3,rfl⟩
  | eptr id i off =>
    obtain ⟨k1,h⟩:=zzf h;cases hh:s.getH id with
    | none=>rw [hh] at h;exact (zzb h).elim
    | some en =>
      rw [hh] at h;obtain ⟨_,k2,h1,h2⟩:=zza h;have hfz:en.frozen=false:=by simpa using zzd h1
      split at h2
      case h_2=>exact (zzb h2).elim
      rename_i tsT hfits;obtain ⟨_,k3,h3,h4⟩:=zza h2;obtain ⟨⟨ls,fr,nw⟩,k4,h5,h6⟩:=zza h4;obtain ⟨_,k5,h7,h8⟩:=zza h6;cases zzc h8;have hg3:=zzd h3;simp only [zzk] at hg3;have hl1:=AA.1 hg3.1;have hl2:=AA.1 hg3.2;have hg7:=zzd h7;simp only [zzk,Bool.not_eq_true'] at hg7;obtain ⟨hkind,hnot⟩:=hg7;obtain ⟨le,hle,hT,htake⟩:=VC hfits;obtain ⟨i,rfl⟩:∃ j:Int,j=i:=⟨i,rfl⟩;obtain ⟨h0,blk,o,hpv,hk⟩:=hp;subst hpv;obtain ⟨hi,ts,cap,hts,hs,hcp,ho⟩:=hk en hh;rw [hle] at hts;cases hts;subst ho;obtain ⟨hTsz,hTpos⟩:=B9 hT
      rcases m.H id en hh with ⟨t,ts2,ht,hts2,hrl,hm⟩ | hM
      case inr=>exact (hM.noCap hs hcp.1).elim
      rw [hle] at hts2;cases hts2
      rcases hm with ⟨hn,_⟩ | ⟨blk',cap',cells,el,hs',hheap,hel,hsz,hcap,hnw,u,hu,hrep⟩
      · rw [hn] at hs;cases hs
      · rw [hs] at hs';cases hs';have hoff:off+tsT.length≤le.length:=by
          have:=congrArg List.length htake;rw [List.length_take,List.length_drop] at this;omega
        have hi2:(i:Int)<((en.l.length:Nat):Int):=hi;have h02:(0:Int)≤i:=h0;have hiN:i.toNat<en.l.length:=by omega
        have hfit0:i.toNat * le.length+le.length≤cap * le.length:=by
          have:(i.toNat+1) * le.length≤cap * le.length:=Nat.mul_le_mul_right _ (by omega)
          rwa [Nat.add_mul,Nat.one_mul] at this
        have hus:x.cells.toList.length=tsT.length:=by omega
        have hfit:i.toNat * le.length+off+x.cells.toList.length≤cells.size:=by omega
        obtain ⟨f1,f2,f3,f4⟩:=Q4 m hv h5
        let hnew:HEnt (std E N):={ en with l:=en.l.set i.toNat (A4 (AK en.l i.toNat) off (ls.map Leaf.pv)),nw:=en.nw&&nw,dirty:=true }
        let wr:Wr (std E N):={ hs:=fr++[(id,some hnew)] }
        let s1:=s.apply ({ hs:=fr }:Wr (std E N))
        let w2:=w.setRow blk (LL cells (i.toNat * le.length+off) x.cells.toList)
        have gB:=fun n=>State.getB_apply0 s wr rfl n
        have gs:∀ n,(s.apply wr).getH n=if n=id then some hnew else s1.getH n:=fun n=>by
          show AJ (Ay s.hp (fr++[(id,some hnew)])) n=_;rw [DB];simp only [Ay];exact As _ _ _ _
        have hget:(s.apply wr).getH id=some hnew:=by rw [gs,if_pos rfl]
        have fget:∀ n h',n≠id→(s.apply wr).getH n=some h'→∃ h0,s.getH n=some h0∧(h'=h0∨h'={ h0 with frozen:=true,dirty:=true }):=fun n h' hn he=>by
          rw [gs,if_neg hn] at he;exact f1.pre.get rfl n h' he
        have hin:InM β σ s blk:=.inr ⟨id,en,cap,hh,hfz,hs⟩;have oth:∀ q,q≠blk→w2.heap[q]?=w.heap[q]?:=fun q hq=>setRow_other w blk q _ hq
        have x0:Ext P (fun _=>False) β σ s w β σ (s.apply wr) w2:=by
          refine ⟨rfl,rfl,rfl,by simp [w2],fun q _ hm=>oth q (fun e=>hm (e▸hin)),fun q hq=>.inl ?_,fun n e he _=>?_,fun n h' he _=>?_⟩
          · rcases hq with ⟨n,e,he,hb⟩ | ⟨n,e,cap',he,hfz',hb⟩
            · rw [gB] at he;exact .inl ⟨n,e,he,hb⟩
            · by_cases hid:n=id
              · rw [hid] at hb;exact .inr ⟨id,en,cap',hh,hfz,hb⟩
              · obtain ⟨h0,hh0,h1⟩:=fget n e hid he
                rcases h1 with rfl | rfl
                · exact .inr ⟨n,e,cap',hh0,hfz',hb⟩
                · cases hfz'
          · rw [gB] at he;exact ⟨⟨e,he⟩,rfl⟩
          · by_cases hid:n=id
            · subst hid;rw [hget] at he;cases he;exact ⟨en,hh,rfl,rfl,by simp [hnew]⟩
            · obtain ⟨h0,hh0,h1⟩:=fget n h' hid he;refine ⟨h0,hh0,rfl,?_⟩
              rcases h1 with rfl | rfl<;>exact ⟨rfl,fun _=>rfl⟩
        have hs1:s1.getH id=some en:=by
          show AJ (Ay s.hp fr) id=some en;rw [DU (fun hm=>by rw [CV.2 hm] at hnot;cases hnot)];exact hh
        have x1:Ext P (fun _=>False) β σ s1 w β σ (s.apply wr) w2:=by
          have hin1:InM β σ s1 blk:=.inr ⟨id,en,cap,hs1,hfz,hs⟩;refine ⟨rfl,rfl,rfl,by simp [w2],fun q _ hm=>oth q (fun e=>hm (e▸hin1)),fun q hq=>.inl ?_,fun n e he _=>?_,fun n h' he _=>?_⟩
          · rcases hq with ⟨n,e,he,hb⟩ | ⟨n,e,cap',he,hfz',hb⟩
            · rw [gB] at he;exact .inl ⟨n,e,by show (s.apply _).getB n=_;rw [State.getB_apply0 s _ rfl];exact he,hb⟩
            · by_cases hid:n=id
              · rw [hid] at hb;exact .inr ⟨id,en,cap',hs1,hfz,hb⟩
              · rw [gs,if_neg hid] at he;exact .inr ⟨n,e,cap',he,hfz',hb⟩
          · rw [gB] at he;exact ⟨⟨e,by show (s.apply _).getB n=_;rw [State.getB_apply0 s _ rfl];exact he⟩,rfl⟩
          · by_cases hid:n=id
            · subst hid;rw [hget] at he;cases he;exact ⟨en,hs1,rfl,rfl,fun _=>by simp [hnew]⟩
            · rw [gs,if_neg hid] at he;exact ⟨h',he,rfl,rfl,fun _=>rfl⟩
        have hlr:ls.length=tsT.length:=by omega
        have hrow:AK en.l i.toNat∈en.l:=by
          unfold AK;rw [List.getD,zzo hiN];exact List.getElem_mem hiN
        have hrowl:(AK en.l i.toNat).length=le.length:=hrl _ hrow;refine ⟨w2,N6 rfl (by omega) (by omega) hheap hfit hone,Qg (id:=id) m x0 (fun n e he=>?_) (fun n e q he hb=>?_) (fun n h' hn he=>?_) (fun n h' q cap' hn he hs=>?_) (fun h' he=>?_) (fun q cap' hq=>?_),x0,
          ⟨fun n hf _=>?_,fun n e he hd=>?_,fun n e he hd=>?_⟩,rfl⟩
        · rw [gB] at he;exact ⟨e,he,rfl,fun _ _ h=>h⟩
        · rw [gB] at he;exact oth q (fun e2=>m.uX n e id en blk cap he hh (e2▸hb) hs)
        · obtain ⟨h0,hh0,h1⟩:=fget n h' hn he;refine ⟨h0,hh0,?_⟩
          rcases h1 with rfl | rfl
          · exact ⟨rfl,rfl,rfl,fun h=>h,rfl⟩
          · exact ⟨rfl,rfl,rfl,(fun h=>by cases h),rfl⟩
        · obtain ⟨h0,hh0,_⟩:=fget n h' hn he;exact oth q (fun e2=>hn (m.uH n id h0 en blk cap' cap hh0 hh (e2▸hs) (by assumption)))
        · rw [hget] at he;cases he;refine .inl ⟨t,le,ht,hle,fun r hr=>?_,.inr ⟨blk,cap,LL cells (i.toNat * le.length+off) x.cells.toList,el,hs,setRow_heap w blk cells _ _ _ hheap,hel,by rw [fA hfit];exact hsz,by simp [hnew];exact hcap,
            hnw.mono (fun h=>by simp [hnew] at h;exact h.1),fun i' j=>if i'=i.toNat∧off≤j∧j<off+tsT.length then x.cells.toList.getD (j - off) undef else u i' j,fun i' j hi' hj=>?_,fun i' j t' hi' hj=>?_⟩⟩
          · rcases List.mem_or_eq_of_mem_set hr with h | h
            · exact hrl r h
            · rw [h,VT];exact hrl _ hrow
          · have hi3:i'<en.l.length:=by simpa [hnew] using hi'
            rw [jW hfit];show _=some (if i'=i.toNat∧off≤j∧j<off+tsT.length then x.cells.toList.getD (j - off) undef else u i' j)
            by_cases hc:i'=i.toNat∧off≤j∧j<off+tsT.length
            · obtain ⟨rfl,hc1,hc2⟩:=hc;rw [if_pos (by omega)];simp only [hc1,hc2,and_self,if_true];have e1:i.toNat * le.length+j - (i.toNat * le.length+off)=j - off:=by omega
              rw [e1,List.getD,zzo (by omega)];rfl
            · rw [if_neg hc,if_neg (fun h=>hc ?_)]
              · exact hu i' j hi3 hj
              · rcases Nat.lt_trichotomy i' i.toNat with h1 | h1 | h1
                · have:(i'+1) * le.length≤i.toNat * le.length:=Nat.mul_le_mul_right _ h1;rw [Nat.add_mul,Nat.one_mul] at this;omega
                · subst h1;exact ⟨rfl,by omega,by omega⟩
                · have:(i.toNat+1) * le.length≤i' * le.length:=Nat.mul_le_mul_right _ h1;rw [Nat.add_mul,Nat.one_mul] at this;omega
          · have hi3:i'<en.l.length:=by simpa [hnew] using hi'
            have hj3:j<le.length:=(List.getElem?_eq_some_iff.1 hj).1;show Rep P w2 (StB n0 β σ (s.apply wr) hnew.nw) t' (if i'=i.toNat∧off≤j∧j<off+tsT.length then x.cells.toList.getD (j - off) undef else u i' j) _;rw [show hnew.l=en.l.set i.toNat (A4 (AK en.l i.toNat) off (ls.map Leaf.pv)) from rfl,rC hiN];have hold:∀ i',i'<en.l.length→Rep P w2 (StB n0 β σ (s.apply wr) hnew.nw) t' (u i' j) (AF en.l i' j):=fun i' hi' =>
              (x0.rep (hrep i' j t' hi' hj)).st (fun b hb=>⟨hb.1,hb.2.mono (fun h=>by simp [hnew] at h;exact h.1)⟩)
            by_cases hii:i'=i.toNat
            · subst hii;rw [if_pos rfl,na (by rw [List.length_map,hlr,hrowl];exact hoff),List.length_map,hlr]
              by_cases hc:off≤j∧j<off+tsT.length
              · rw [if_pos ⟨rfl,hc⟩,if_pos hc];have hq:tsT[j - off]?=some t':=by
                  rw [← htake,List.getElem?_take,if_pos (by omega),List.getElem?_drop,show off+(j - off)=j by omega];exact hj
                refine x1.rep (f4 tsT s1 hkind (f1.sub rfl rfl) (f1.frz rfl) hnew.nw (fun h=>by simp [hnew] at h;exact h.2) (j - off) t' _ hq ?_);rw [List.getD,zzo (by omega)];rfl
              · rw [if_neg (fun h=>hc h.2),if_neg hc];exact hold _ hi3
            · rw [if_neg hii,if_neg (fun h=>hii h.1)];exact hold _ hi3
        · rw [hs] at hq;cases hq;refine ⟨fun n e he hb=>?_,fun n h' cap'' hn he hs2=>?_⟩
          · rw [gB] at he;exact m.uX n e id en blk cap he hh hb hs
          · obtain ⟨h0,hh0,_⟩:=fget n h' hn he;exact hn (m.uH n id h0 en blk cap'' cap hh0 hh hs2 hs)
        · refine ⟨fun q tv hq=>?_,fun q e he=>?_,fun q e he=>?_⟩
          · rw [State.getT_apply0 s wr rfl] at hq;exact hf.t q tv hq
          · rw [gB] at he;exact hf.b q e he
          · by_cases hq:q=id
            · rw [hq];exact hf.h id en hh
            · obtain ⟨h0,hh0,_⟩:=fget q e hq he;exact hf.h q h0 hh0
        · rw [gB] at he;exact he
        · by_cases hq:n=id
          · rw [hq,hget] at he;cases he;cases hd
          · obtain ⟨h0,hh0,h1⟩:=fget n e hq he
            rcases h1 with rfl | rfl
            · exact hh0
            · cases hd
  | _=>exact (zzb h).elim
end
def RelArgs {E:Env} {N:Nat} (P:Program) (n0:Nz) (β:Nat→Option Nat) (σ:Nat→Option (Nat×Nat)) (s:St0 E N) (w:World):List (AV (std E N))→List Value→Prop
 | [],[]=>True
 | x::xs,v::vs=>RelAV P n0 β σ s w x v∧RelArgs P n0 β σ s w xs vs
 | _,_=>False
def noB:Nat→Option Nat:=fun _=>none
def AP {E:Env} {N:Nat} (hs:List (Nat×HEnt (std E N))):St0 E N:=⟨.e,[],hs,0⟩
def Ret {E:Env} {N:Nat} (P:Program) (ci:CI) (n0:Nz) (σ:Nat→Option (Nat×Nat)) (s0:St0 E N) (w:World) (fn:Func) (rs:List PV):Ending→World→Prop
  | .returned v, w' => w'.os = w.os ∧ w'.tape = w.tape ∧ w'.output = w.output ∧ w.heap.size ≤ w'.heap.size ∧ (∀ b, b < w.heap.size → ¬ InM noB σ s0 b → w'.heap[b]? = w.heap[b]?) ∧
      ∀ q,∃ (σ':Nat→Option (Nat×Nat)) (vs:List (Val (std E N))) (hs:List (Nat×HEnt (std E N))),BQ (O:=std E N) P ci.ow ci.nw rs 0 q fn.resultTypes.toList=some (vs,hs) ∧
        Mem P n0 noB σ' (AP hs) w'∧RelAV P n0 noB σ' (AP hs) w' (Ib vs) v∧∀ b,InM noB σ' (AP hs) b→InM noB σ s0 b∨w.heap.size≤b
  | _,_=>False
def IE (P:Program) (E:Env) (N:Nat) (ci:CI):Prop :=
 ∀ fn,P.funcs[ci.f]?=some fn→∀ (ls rs:List PV),E ci.f ci.fns ls=some rs→∀ (vs:List (AV (std E N))) (hs:List (Nat×HEnt (std E N))),
  A1 (O:=std E N) P ci.gives 1 fn.params.toList ci.fns (ls.map PV.leaf)=some (vs,hs)→∀ (n0:Nz) (σ:Nat→Option (Nat×Nat)) (w:World) (args:List Value),n0.n=w.heap.size →
  Mem P n0 noB σ (AP hs) w→RelArgs P n0 noB σ (AP hs) w vs args→(ck ci.gives=true→∀ q,σ q=none)→Kept P noB σ (AP hs) w→Calls P ci.f args.toArray w (Ret (E:=E) (N:=N) P ci n0 σ (AP hs) w fn rs)
section
variable {E:Env} {N:Nat} {P:Program} {n0 n0':Nz} {nt:Nat} {β β':Nat→Option Nat} {σ σ':Nat→Option (Nat×Nat)} {s s':St0 E N} {a:Act} {w w':World}
theorem RelH.view {id q : Nat} {h0 h1 : HEnt (std E N)} (h : RelH P n0 β σ s w id h0) (he : h1.e = h0.e) (hl : h1.l = h0.l) (hs : σ' q = σ id)
    (ho:∀ blk cap,σ id=some (blk,cap)→Old n0 h0.nw ⟨blk,true⟩→Old n0' h1.nw ⟨blk,true⟩) (hst:∀ b,StB n0 β σ s h0.nw b→StB n0' β' σ' s' h1.nw b):RelH P n0' β' σ' s' w q h1:=by
  rcases h with ⟨t,ts,ht,hts,hrl,hm⟩ | hM
  case inr=>exact .inr (hM.view he hl hs (fun _ _ _=>rfl) ho)
  refine .inl ⟨t,ts,by rw [he];exact ht,by rw [he];exact hts,by rw [hl];exact hrl,?_⟩
  rcases hm with ⟨h1,h2⟩ | ⟨blk,cap,cells,el,ha,hheap,hel,hc,hd,hnw,v,hv,hrep⟩
  · exact .inl ⟨by rw [hs];exact h1,by rw [hl];exact h2⟩
  · refine .inr ⟨blk,cap,cells,el,by rw [hs];exact ha,hheap,by rw [he];exact hel,hc,by rw [hl];exact hd,ho blk cap ha hnw,v,by rw [hl];exact hv,fun i j t' hi hj=>?_⟩;rw [hl] at hi ⊢;exact (hrep i j t' hi hj).st hst
def mE (P:Program) (s:St0 E N) (h':HEnt (std E N)):Option Nat→Prop
 | none=>h'.l=[]∧∃ t ts,AH P t=.sl h'.e∧AM P h'.e=some ts
 | some id=>∃ h,s.getH id=some h∧h'.e=h.e∧h'.l=h.l∧h.frozen=false∧(h'.nw=true→h.nw=true)
def Ents (P:Program) (s:St0 E N):Nat→List (Option Nat)→List (Nat×HEnt (std E N))→Prop
 | _,[],[]=>True
 | q,o::os,(k,h')::r=>k=q∧h'.frozen=false∧mE P s h' o∧Ents P s (q+1) os r
 | _,_,_=>False
def Wired (σ σc:Nat→Option (Nat×Nat)) (s0:St0 E N):Nat→List (Option Nat)→List (Nat×HEnt (std E N))→Prop
 | q,o::os,(_,h')::r=>σc q=o.bind σ∧s0.getH q=some h'∧Wired σ σc s0 (q+1) os r
 | _,_,_=>True
theorem Ents.len:∀ {q:Nat} {os:List (Option Nat)} {r:List (Nat×HEnt (std E N))},Ents P s q os r→os.length=r.length
 | _,[],[],_=>rfl
 | _,_::_,(_,_)::_,h=>by simp [Ents.len h.2.2.2]
 | _,[],_::_,h=>h.elim
 | _,_::_,[],h=>h.elim
theorem Ents.append:∀ {q:Nat} {os os':List (Option Nat)} {r r':List (Nat×HEnt (std E N))},Ents P s q os r→Ents P s (q+r.length) os' r'→Ents P s q (os++os') (r++r')
 | _,[],_,[],_,_,h=>by simpa using h
 | q,o::os,_,(k,h')::r,_,h,h2=>⟨h.1,h.2.1,h.2.2.1,Ents.append h.2.2.2 (by simpa [Nat.add_assoc,Nat.add_comm 1] using h2)⟩
 | _,[],_,_::_,_,h,_=>h.elim
 | _,_::_,_,[],_,h,_=>h.elim
theorem Wired.left {σc:Nat→Option (Nat×Nat)} {s0:St0 E N}:∀ {q:Nat} {os os':List (Option Nat)} {r r':List (Nat×HEnt (std E N))},os.length=r.length→Wired σ σc s0 q (os++os') (r++r')→Wired σ σc s0 q os r
 | _,[],_,[],_,_,_=>trivial
 | q,o::os,_,(k,h')::r,_,hl,h=>⟨h.1,h.2.1,Wired.left (by simpa using hl) h.2.2⟩
 | _,[],_,_::_,_,hl,_=>by simp at hl
 | _,_::_,_,[],_,hl,_=>by simp at hl
theorem Wired.right {σc:Nat→Option (Nat×Nat)} {s0:St0 E N}:∀ {q:Nat} {os os':List (Option Nat)} {r r':List (Nat×HEnt (std E N))},os.length=r.length→Wired σ σc s0 q (os++os') (r++r')→Wired σ σc s0 (q+r.length) os' r'
 | _,[],_,[],_,_,h=>by simpa using h
 | q,o::os,_,(k,h')::r,_,hl,h=>by
  have:=Wired.right (by simpa using hl) h.2.2;simpa [Nat.add_assoc,Nat.add_comm 1] using this
 | _,[],_,_::_,_,hl,_=>by simp at hl
 | _,_::_,_,[],_,hl,_=>by simp at hl
theorem fH {σc : Nat → Option (Nat × Nat)} {s0 : St0 E N} {q id : Nat} {e : TypeId} {v : Value} {h h' : HEnt (std E N)} (hc : RelC P n0 β σ s w (.own e id) v) (hh : s.getH id = some h) (he : h'.e = h.e) (hl : h'.l = h.l)
    (hs:σc q=σ id) (hg:s0.getH q=some h'):RelC P n0' β' σc s0 w' (.own e q) v:=by
  obtain ⟨h1,h2⟩:=hc;obtain ⟨e1,o1⟩:=h2 h hh;refine ⟨h1,fun h3 hh3=>?_⟩;rw [hg] at hh3;cases hh3;refine ⟨he.trans e1,?_⟩;unfold iz at o1 ⊢;rw [hs,hl];exact o1
theorem LZ (m : Mem P n0 β σ s w) : ∀ {ts : List TypeId} {cs : List (AC0 E N)} {vals : List Value} {used u : List Nat} {ls : List AU} {k k' : Nat}, RelCs P n0 β σ s w cs vals → AO P ts cs = true →
    RM.run s (UF (O:=std E N) used cs) k=.ok ((ls,u),k')→∀ (q:Nat) (rest:List AU),∃ (cs':List (AC0 E N)) (nh:List (Nat×HEnt (std E N))) (ids:List (Option Nat)),
      Ae (O:=std E N) P true q ts (ls++rest)=some (cs',nh,rest)∧Ents P s q ids nh∧(∀ n∈u,n∈used∨some n∈ids)∧(∀ n∈used,n∈u)∧(∀ n,some n∈ids→n∈u∧n∉used)∧(ids.filterMap id).Nodup∧(∀ p∈nh,p.2.nw=false) ∧
      ∀ (n0c:Nz) (σc:Nat→Option (Nat×Nat)) (s0:St0 E N),Wired σ σc s0 q ids nh→RelCs P n0c noB σc s0 w cs' vals
  | [],[],[],used,u,ls,k,k',_,_,h=>by
    cases zzc h;intro q rest;exact ⟨[],[],[],rfl,trivial,fun n hn=>.inl hn,fun n hn=>hn,fun n hn=>by simp at hn,List.nodup_nil,fun p hp=>by simp at hp,fun _ _ _ _=>trivial⟩
  | t::ts,c::cs,v::vals,used,u,ls,k,k',hc,hk,h=>by
    simp only [AO] at hk
    split at hk
    case h_2=>cases hk
    rename_i hk1;intro q rest;cases c with
    | int kk i =>
      obtain ⟨⟨l,fr,nw⟩,k1,h1,h2⟩:=zza h;obtain ⟨⟨ls2,u2⟩,k2,h3,h4⟩:=zza h2;cases zzc h1;cases zzc h4;obtain ⟨cs',nh,ids,a1,a2,a3,a4,a5,a6,a8,a7⟩:=LZ m hc.2 hk h3 q rest;cases hl:AH P t<;>rw [hl] at hk1<;>simp [A6] at hk1;have hkk:=F3.1 hk1;rw [hkk] at hl;refine ⟨.int kk i::cs',nh,ids,by simp [Ae,hl,a1],a2,a3,a4,a5,a6,a8,fun n0c σc s0 hw=>⟨?_,a7 n0c σc s0 hw⟩⟩;have hv:v=.int kk i:=hc.1;exact hv
    | bool b =>
      obtain ⟨⟨l,fr,nw⟩,k1,h1,h2⟩:=zza h;obtain ⟨⟨ls2,u2⟩,k2,h3,h4⟩:=zza h2;cases zzc h1;cases zzc h4;obtain ⟨cs',nh,ids,a1,a2,a3,a4,a5,a6,a8,a7⟩:=LZ m hc.2 hk h3 q rest;cases hl:AH P t<;>rw [hl] at hk1<;>simp [A6] at hk1;refine ⟨.bool b::cs',nh,ids,by simp [Ae,hl,a1],a2,a3,a4,a5,a6,a8,fun n0c σc s0 hw=>⟨?_,a7 n0c σc s0 hw⟩⟩;have hv:v=.bool b:=hc.1;exact hv
    | str x =>
      obtain ⟨⟨l,fr,nw⟩,k1,h1,h2⟩:=zza h;obtain ⟨⟨ls2,u2⟩,k2,h3,h4⟩:=zza h2;cases zzc h1;cases zzc h4;obtain ⟨cs',nh,ids,a1,a2,a3,a4,a5,a6,a8,a7⟩:=LZ m hc.2 hk h3 q rest;cases hl:AH P t<;>rw [hl] at hk1<;>simp [A6] at hk1;refine ⟨.str x::cs',nh,ids,by simp [Ae,hl,a1],a2,a3,a4,a5,a6,a8,fun n0c σc s0 hw=>⟨?_,a7 n0c σc s0 hw⟩⟩;have hv:v=.string x:=hc.1;exact hv
    | nil e =>
      obtain ⟨⟨l,fr,nw⟩,k1,h1,h2⟩:=zza h;obtain ⟨⟨ls2,u2⟩,k2,h3,h4⟩:=zza h2;cases zzc h1;cases zzc h4;obtain ⟨cs',nh,ids,a1,a2,a3,a4,a5,a6,a8,a7⟩:=LZ m hc.2 hk h3 (q+1) rest;cases hl:AH P t<;>rw [hl] at hk1<;>simp [A6] at hk1;rename_i e2;subst hk1;obtain ⟨t0,ts0,ht0,hts0,av,hv⟩:=hc.1;refine ⟨.own e2 q::cs',(q,{ e:=e2,frozen:=false,nw:=false,l:=[],dirty:=true })::nh,none::ids,by simp [Ae,hl,a1],⟨rfl,rfl,⟨rfl,t0,ts0,ht0,hts0⟩,a2⟩,fun n hn=>?_,a4,fun n hn=>?_,by simpa using a6,
        fun p hp=>?_,fun n0c σc s0 hw=>⟨⟨⟨t0,ht0,_,_,_,hv⟩,fun h3 hh3=>?_⟩,a7 n0c σc s0 hw.2.2⟩⟩
      · exact (a3 n hn).imp (fun h=>h) (fun h=>zzn _ h)
      · simp at hn;exact a5 n hn
      · rcases List.mem_cons.1 hp with rfl | hp
        · rfl
        · exact a8 p hp
      · rw [hw.2.1] at hh3;cases hh3;exact ⟨rfl,.inr ⟨hw.1,rfl,av,hv⟩⟩
    | own e id =>
      obtain ⟨k1,h1⟩:=zzf h;cases hh:s.getH id with
      | none=>rw [hh] at h1;exact (zzb h1).elim
      | some en =>
        rw [hh] at h1;simp only at h1
        split at h1
        case h_2=>exact (zzb h1).elim
        rename_i hg;simp only [zzk,Bool.not_eq_true'] at hg;obtain ⟨⟨ls2,u2⟩,k2,h3,h4⟩:=zza h1;cases zzc h4;obtain ⟨cs',nh,ids,a1,a2,a3,a4,a5,a6,a8,a7⟩:=LZ m hc.2 hk h3 (q+1) rest;cases hl:AH P t<;>rw [hl] at hk1<;>simp [A6] at hk1;rename_i e2;subst hk1;have hnu:id∉used:=fun hm=>by have:=CV.2 hm;rw [this] at hg;cases hg.2
        obtain ⟨hc1,hc2⟩:=hc.1;have he:=(hc2 en hh).1;refine ⟨.own e2 q::cs',(q,{ e:=e2,frozen:=false,nw:=false,l:=en.l,dirty:=true })::nh,some id::ids,by simp [Ae,hl,a1],⟨rfl,rfl,⟨en,hh,he.symm,rfl,hg.1,fun h=>by cases h⟩,a2⟩,fun n hn=>?_,fun n hn=>a4 n (zzn _ hn),fun n hn=>?_,?_,
          fun p hp=>?_,fun n0c σc s0 hw=>⟨fH (h':={ e:=e2,frozen:=false,nw:=false,l:=en.l,dirty:=true }) hc.1 hh he.symm rfl hw.1 hw.2.1,a7 n0c σc s0 hw.2.2⟩⟩
        · rcases a3 n hn with h | h
          · rcases List.mem_cons.1 h with rfl | h
            · exact .inr zzm
            · exact .inl h
          · exact .inr (zzn _ h)
        · rcases List.mem_cons.1 hn with h | h
          · cases h;exact ⟨a4 id zzm,hnu⟩
          · exact ⟨(a5 n h).1,fun hm=>(a5 n h).2 (zzn _ hm)⟩
        · show (id::ids.filterMap _root_.id).Nodup;refine List.nodup_cons.2 ⟨fun hm=>?_,a6⟩;have:some id∈ids:=by simpa using hm
          exact (a5 id this).2 zzm
        · rcases List.mem_cons.1 hp with rfl | hp
          · rfl
          · exact a8 p hp
    | imm e nw l=>exact (zzb h).elim
    | _ =>
      obtain ⟨⟨l,fr,nw⟩,k1,h1,h2⟩:=zza h;exact (zzb h1).elim
  | [],_::_,_,_,_,_,_,_,_,hk,_=>by simp [AO] at hk
  | _::_,[],_,_,_,_,_,_,_,hk,_=>by simp [AO] at hk
  | _,[],_::_,_,_,_,_,_,hc,_,_=>hc.elim
  | _,_::_,[],_,_,_,_,_,hc,_,_=>hc.elim
theorem ep (m : Mem P n0 β σ s w) : ∀ {ts : List TypeId} {cs : List (AC0 E N)} {vals : List Value} {ls : List AU} {fr : List (Nat × Option (HEnt (std E N)))} {nw : Bool} {k k' : Nat}, RelCs P n0 β σ s w cs vals → AO P ts cs = true →
    RM.run s (JS (O:=std E N) cs) k=.ok ((ls,fr,nw),k')→∀ (q:Nat) (rest:List AU),FrOK s fr∧(∀ x∈fr,x.1∈AB cs)∧∃ (cs':List (AC0 E N)),
      Ae (O:=std E N) P false q ts (ls++rest)=some (cs',[],rest) ∧
      ∀ (s1:St0 E N) (n0c:Nz) (σc:Nat→Option (Nat×Nat)) (s0:St0 E N),Sub s s1→Frz s1 fr→(∀ b,StB n0 β σ s1 false b→StB n0c noB σc s0 false b)→RelCs P n0c noB σc s0 w cs' vals
  | [],[],[],ls,fr,nw,k,k',_,_,h=>by
    cases zzc h;intro q rest;exact ⟨fun _ _ hm=>by simp at hm,fun _ hm=>by simp at hm,[],rfl,fun _ _ _ _ _ _ _=>trivial⟩
  | t::ts,c::cs,v::vals,ls,fr,nw,k,k',hc,hk,h=>by
    simp only [AO] at hk
    split at hk
    case h_2=>cases hk
    rename_i hk1;intro q rest;obtain ⟨⟨l,f1,n1⟩,k1,h1,h2⟩:=zza h;obtain ⟨⟨ls2,f2,n2⟩,k2,h3,h4⟩:=zza h2;have hr:=zzc h4;simp only [Prod.mk.injEq] at hr;obtain ⟨rfl,rfl,rfl⟩:=hr;obtain ⟨a1,a2,a3⟩:=X1 m hc.1 h1;obtain ⟨b1,b2,cs',b3,b4⟩:=ep m hc.2 hk h3 q rest;refine ⟨a1.append b1,fun x hx=>?_,?_⟩
    · rcases List.mem_append.1 hx with h | h
      · simp [AB,a2 x h]
      · simp [AB,b2 x h]
    · have rep : ∀ (s1 : St0 E N), Sub s s1 → Frz s1 (f1 ++ f2) → Rep P w (StB n0 β σ s1 false) t v l.pv := fun s1 hs hf =>
        a3 t s1 hk1 hs (fun x hx h hh=>by obtain ⟨h',e1,e2⟩:=hf.left x hx;rw [e1] at hh;cases hh;exact e2)
          (fun x hx=>by obtain ⟨h',e1,_⟩:=hf.left x hx;exact ⟨h',e1⟩) false (fun e=>by cases e)
      have sl : ∀ (e : TypeId) (r : Rows), AH P t = .sl e → l = .rows r → ∃ (cs' : List (AC0 E N)),
          Ae (O:=std E N) P false q (t::ts) (l::ls2++rest)=some (cs',[],rest) ∧
          ∀ (s1:St0 E N) (n0c:Nz) (σc:Nat→Option (Nat×Nat)) (s0:St0 E N),Sub s s1→Frz s1 (f1++f2)→(∀ b,StB n0 β σ s1 false b→StB n0c noB σc s0 false b)→RelCs P n0c noB σc s0 w cs' (v::vals):=fun e r hl hlr=>by
        subst hlr;exact ⟨.imm e false r::cs',by simp [Ae,hl,b3],fun s1 n0c σc s0 hs hf hst=>⟨⟨t,hl,(rep s1 hs hf).st hst⟩,b4 s1 n0c σc s0 hs hf.right hst⟩⟩
      cases c with
      | int kk i =>
        cases zzc h1;cases hl:AH P t<;>rw [hl] at hk1<;>simp [A6] at hk1;have hkk:=F3.1 hk1;rw [hkk] at hl;have hv:v=.int kk i:=hc.1;exact ⟨.int kk i::cs',by simp [Ae,hl,b3],fun s1 n0c σc s0 hs hf hst=>⟨hv,b4 s1 n0c σc s0 hs hf.right hst⟩⟩
      | bool b =>
        cases zzc h1;cases hl:AH P t<;>rw [hl] at hk1<;>simp [A6] at hk1;have hv:v=.bool b:=hc.1;exact ⟨.bool b::cs',by simp [Ae,hl,b3],fun s1 n0c σc s0 hs hf hst=>⟨hv,b4 s1 n0c σc s0 hs hf.right hst⟩⟩
      | str x =>
        cases zzc h1;cases hl:AH P t<;>rw [hl] at hk1<;>simp [A6] at hk1;have hv:v=.string x:=hc.1;exact ⟨.str x::cs',by simp [Ae,hl,b3],fun s1 n0c σc s0 hs hf hst=>⟨hv,b4 s1 n0c σc s0 hs hf.right hst⟩⟩
      | nil e =>
        cases zzc h1;cases hl:AH P t<;>rw [hl] at hk1<;>simp [A6] at hk1;exact sl _ _ hl rfl
      | imm e nw l =>
        cases zzc h1;cases hl:AH P t<;>rw [hl] at hk1<;>simp [A6] at hk1;exact sl _ _ hl rfl
      | own e id =>
        obtain ⟨k1,h1⟩:=zzf h1;cases hh:s.getH id with
        | none=>rw [hh] at h1;exact (zzb h1).elim
        | some en =>
          rw [hh] at h1;cases zzc h1;cases hl:AH P t<;>rw [hl] at hk1<;>simp [A6] at hk1;exact sl _ _ hl rfl
      | _=>exact (zzb h1).elim
  | [],_::_,_,_,_,_,_,_,_,hk,_=>by simp [AO] at hk
  | _::_,[],_,_,_,_,_,_,_,hk,_=>by simp [AO] at hk
  | _,[],_::_,_,_,_,_,_,hc,_,_=>hc.elim
  | _,_::_,[],_,_,_,_,_,hc,_,_=>hc.elim
def fnV (v:Val (std E N)):Option (Nat×List (Cap (std E N))):=match v with
 | ⟨false,[.fn f caps]⟩=>some (f,caps)
 | _=>none
theorem gy {v:Val (std E N)} {f:Nat} {caps:List (Cap (std E N))} (h:fnV v=some (f,caps)):v=⟨false,[.fn f caps]⟩:=by
 unfold fnV at h
 split at h
 ·cases h;rfl
 ·cases h
theorem fj {gv : List Bool} {used : List Nat} {v : Val (std E N)} {r : List (AV (std E N))} (h : fnV v = none) : Ki P gv used (.val v :: r) = match gv.headD false with
    | true=>(UF used v.cs).bind fun (ls,u)=>(Ki P gv.tail u r).bind fun (ls',fr,u')=>.ret (ls++ls',fr,u')
    | false=>(JS v.cs).bind fun (ls,fr,_)=>(Ki P gv.tail used r).bind fun (ls',fr',u')=>.ret (ls++ls',fr++fr',u'):=by
  rcases v with ⟨_ | _,_ | ⟨c,_ | ⟨d,l⟩⟩⟩<;>try rfl
  · cases c<;>first | rfl | cases h
  · cases c<;>rfl
theorem nW {v : Val (std E N)} {r : List (AV (std E N))} (h : fnV v = none) : Hn (.val v :: r) = match v.cs.all oV with
    | true=>Hn r
    | false=>none:=by
  rcases v with ⟨_ | _,_ | ⟨c,_ | ⟨d,l⟩⟩⟩<;>try rfl
  · cases c<;>first | rfl | cases h
  · cases c<;>rfl
theorem bn {v:Val (std E N)} {r:List (AV (std E N))} (h:fnV v=none):Qp (.val v::r)=Qp r:=by
 rcases v with ⟨_ | _,_ | ⟨c,_ | ⟨d,l⟩⟩⟩<;>try rfl
 ·cases c<;>first | rfl | cases h
 ·cases c with
  | fn f caps=>cases caps<;>rfl
  | _=>rfl
theorem mv {t : TypeId} {ts : List TypeId} {v : Val (std E N)} {r : List (AV (std E N))} (h : fnV v = none) (ha : GR P (t :: ts) (.val v :: r) = true) :
    AH P t≠.fn∧∃ l,AM P t=some l∧v.agg=AR P t∧AO P l v.cs=true∧GR P ts r=true:=by
  simp only [GR,zzk] at ha;obtain ⟨ha,hr⟩:=ha;have key : AH P t ≠ .fn ∧ (match AM P t with
      | some l=>v.agg==AR P t&&AO P l v.cs
      | none=>false)=true:=by
    rcases v with ⟨_ | _,_ | ⟨c,_ | ⟨d,l⟩⟩⟩
    · cases hl:AH P t<;>rw [hl] at ha<;>first | exact ⟨by simp,ha⟩ | cases ha
    · cases c with
      | fn f caps=>cases h
      | _=>cases hl:AH P t<;>rw [hl] at ha<;>first | exact ⟨by simp,ha⟩ | cases ha
    · cases c<;>cases hl:AH P t<;>rw [hl] at ha<;>first | exact ⟨by simp,ha⟩ | cases ha
    all_goals (cases hl:AH P t<;>rw [hl] at ha<;>first | exact ⟨by simp,ha⟩ | cases ha)
  refine ⟨key.1,?_⟩;have k2:=key.2
  split at k2
  · rename_i l htl;simp only [zzk,beq_iff_eq] at k2;exact ⟨l,htl,k2.1,k2.2,hr⟩
  · cases k2
theorem pK {t:TypeId} {ts:List TypeId} {f:Nat} {caps:List (Cap (std E N))} {r:List (AV (std E N))} (ha:GR P (t::ts) (.val ⟨false,[.fn f caps]⟩::r)=true):AH P t=.fn∧GR P ts r=true:=by
 simp only [GR,zzk] at ha;obtain ⟨ha,hr⟩:=ha;refine ⟨?_,hr⟩;cases hl:AH P t<;>rw [hl] at ha<;>first | rfl | (simp at ha)
theorem rG {T:TypeId} (h:mi P T=true):∃ t,AH P t=.sl T:=by
 unfold mi at h
 split at h
 ·rename_i t _
  split at h
  ·rename_i e he;exact ⟨t,by rw [he,AA.1 h]⟩
  ·cases h
 ·cases h
theorem eu {St : Blk → Prop} : ∀ {ts : List TypeId} {cs : List (AC0 E N)} {vals : List Value} {ls : List AU} {fr : List (Nat × Option (HEnt (std E N)))} {nw : Bool} {k k' : Nat}, cs.all dD = true → AO P ts cs = true → RelCs P n0 β σ s w cs vals → RM.run s (JS (O := std E N) cs) k = .ok ((ls, fr, nw), k') →
    ls.length=ts.length∧∀ (j:Nat) (t':TypeId) (v:Value),ts[j]?=some t'→vals[j]?=some v→Rep P w St t' v (AD (ls.map Leaf.pv) j)
  | [],[],[],ls,fr,nw,k,k',_,_,_,h=>by
    cases zzc h;exact ⟨rfl,fun j t' v hj=>by simp at hj⟩
  | t::ts,c::cs,v::vals,ls,fr,nw,k,k',hp,hk,hc,h=>by
    simp only [AO] at hk
    split at hk
    case h_2=>cases hk
    rename_i hk1;simp only [List.all_cons,zzk] at hp;obtain ⟨⟨l,f1,n1⟩,k1,h1,h2⟩:=zza h;obtain ⟨⟨ls2,f2,n2⟩,k2,h3,h4⟩:=zza h2;have hr:=zzc h4;simp only [Prod.mk.injEq] at hr;obtain ⟨rfl,_,_⟩:=hr;obtain ⟨a1,a2⟩:=eu (St:=St) hp.2 hk hc.2 h3;have hd:Rep P w St t v l.pv:=by
      have hv:=hc.1;cases c with
      | int kk i =>
        cases zzc h1;cases hl:AH P t<;>rw [hl] at hk1<;>simp [A6] at hk1;have hkk:=F3.1 hk1;rw [hkk] at hl;have hv:v=.int kk i:=hv;subst hv;exact .int hl
      | bool b =>
        cases zzc h1;cases hl:AH P t<;>rw [hl] at hk1<;>simp [A6] at hk1;have hv:v=.bool b:=hv;subst hv;exact .bool hl
      | str x =>
        cases zzc h1;cases hl:AH P t<;>rw [hl] at hk1<;>simp [A6] at hk1;have hv:v=.string x:=hv;subst hv;exact .str hl
      | _=>simp [dD] at hp
    refine ⟨by simp [a1],fun j t' v' hj hv=>?_⟩;cases j with
    | zero =>
      simp at hj hv;subst hj;subst hv;exact hd
    | succ j=>exact a2 j t' v' (by simpa using hj) (by simpa using hv)
  | [],_::_,_,_,_,_,_,_,_,hk,_,_=>by simp [AO] at hk
  | _::_,[],_,_,_,_,_,_,_,hk,_,_=>by simp [AO] at hk
  | _,[],_::_,_,_,_,_,_,_,_,hc,_=>hc.elim
  | _,_::_,[],_,_,_,_,_,_,_,hc,_=>hc.elim
theorem fJ (m : Mem P n0 β σ s w) : ∀ {ts : List TypeId} {caps : List (Cap (std E N))} {cl : List AU} {k k' : Nat}, RM.run s (kN (O := std E N) P ts caps) k = .ok (cl, k') → ∀ (rest : List AU),
    ∃ caps',EY (O:=std E N) ts (cl++rest)=some (caps',rest)∧caps'.length=caps.length ∧
      ∀ (n0c:Nz) (σc:Nat→Option (Nat×Nat)) (s0:St0 E N),(caps≠[]→∀ b e blk,s.getB b=some e→β b=some blk→StB n0c noB σc s0 false ⟨blk,true⟩) →
        ∀ (vs:List Value),(∀ (i:Nat) (c:Cap (std E N)),caps[i]?=some c→∃ x:Value,vs[i]?=some x∧Qz P n0 β σ s w c x) →
          ∀ (i:Nat) (c:Cap (std E N)),caps'[i]?=some c→∃ x:Value,vs[i]?=some x∧Qz P n0c noB σc s0 w c x
  | [],[],cl,k,k',h=>by
    cases zzc h;intro rest;exact ⟨[],rfl,rfl,fun _ _ _ _ vs _ i c hc=>by simp at hc⟩
  | T::ts,.box b off::caps,cl,k,k',h=>by
    obtain ⟨k1,h0⟩:=zzg h;cases hb:s.getB b with
    | none=>rw [hb] at h0;exact (zzb h0).elim
    | some e =>
      rw [hb] at h0;simp only at h0
      split at h0
      case h_2=>exact (zzb h0).elim
      rename_i l cs htl hsl;obtain ⟨_,k2,h1,h2⟩:=zza h0;have hg:=zzd h1;simp only [zzk] at hg;obtain ⟨⟨ls,fr,nw⟩,k3,h3,h4⟩:=zza h2;obtain ⟨more,k4,h5,h6⟩:=zza h4;cases zzc h6;intro rest;obtain ⟨caps',a1,a2,a3⟩:=fJ m h5 rest;obtain ⟨hcs,hlen⟩:=C0 hsl;refine ⟨.row T [ls.map Leaf.pv]::caps',?_,by simp [a2],fun n0c σc s0 hbx vs hvs i c hc=>?_⟩
      · show (EY (O:=std E N) ts (more++rest)).map _=_;rw [a1];rfl
      · cases i with
        | succ i =>
          obtain ⟨x,hx,hr⟩:=a3 n0c σc s0 (fun _=>hbx (by simp)) vs.tail (fun i c hc=>by
            obtain ⟨x,hx,hr⟩:=hvs (i+1) c (by simpa using hc);exact ⟨x,by rw [List.getElem?_tail];exact hx,hr⟩) i c (by simpa using hc)
          exact ⟨x,by rw [List.getElem?_tail] at hx;exact hx,hr⟩
        | zero =>
          simp at hc;subst hc;obtain ⟨x,hx,blk,hxv,hxb⟩:=hvs 0 _ rfl;refine ⟨x,hx,Nat.zero_lt_one,?_⟩;have hblk:=hxb e hb;obtain ⟨blk',cells,el,q1,q2,q3,_⟩:=m.B b e hb;rw [hblk] at q1;cases q1;obtain ⟨t,ht⟩:=rG hg.2;obtain ⟨hsz,hpos⟩:=B9 htl;have hrel:RelCs P n0 β σ s w cs ((cells.toList.drop off).take (P.cellsOf T)):=by rw [hcs];exact (q3.drop off).take _
          have hvl:((cells.toList.drop off).take (P.cellsOf T)).length=l.length:=by rw [← RelCs.length hrel,hlen,hsz]
          obtain ⟨p1,p2⟩:=eu (St:=StB n0c noB σc s0 false) hg.1.2 hg.1.1 hrel h3;have cell:∀ j,j<l.length→((cells.toList.drop off).take (P.cellsOf T))[j]?=some (cells.toList.getD (off+j) undef):=fun j hj=>by
            have h2:=hvl;rw [List.length_take,List.length_drop] at h2;rw [List.getElem?_take,if_pos (by omega),List.getElem?_drop,zzl,zzo (by omega)];rfl
          refine ⟨t,l,blk,off,1,1,ht,htl,.sl (fun _ j=>cells.toList.getD (off+j) undef) ht htl rfl (fun r hr=>?_) (Nat.le_refl _) (.inr ⟨⟨blk,true⟩,off,rfl,hbx (by simp) b e blk hb hblk,⟨?_,fun _=>.of q2⟩,fun i j hi hj=>?_⟩) (fun i j t' hi hj=>?_),hxv⟩
          · rw [List.mem_singleton.1 hr,List.length_map,p1]
          · exact BM q2
          · have:i=0:=by omega
            subst this;rw [Eg q2,Nat.zero_mul,Nat.zero_add];have h2:=hvl;rw [List.length_take,List.length_drop] at h2;rw [zzl,Array.getElem?_toList];have:off+j<cells.size:=by simp at h2;omega
            rw [Array.getElem?_eq_getElem this];rfl
          · have:i=0:=by omega
            subst this;exact p2 j t' _ hj (cell j (List.getElem?_eq_some_iff.1 hj).1)
  | T::ts,.row e l::caps,cl,k,k',h=>(zzb h).elim
  | [],_::_,cl,k,k',h=>(zzb h).elim
  | _::_,[],cl,k,k',h=>(zzb h).elim
theorem SW (m : Mem P n0 β σ s w) : ∀ {params : List TypeId} {args : List (AV (std E N))} {vals : List Value} {gives : List Bool} {fns : List Nat} {used u : List Nat} {ls : List AU} {fr : List (Nat × Option (HEnt (std E N)))} {k k' : Nat},
    RelArgs P n0 β σ s w args vals→GR P params args=true→Hn args=some fns→RM.run s (Ki (O:=std E N) P gives used args) k=.ok ((ls,fr,u),k') →
    ∀ (q:Nat),FrOK s fr∧∃ (vs:List (AV (std E N))) (nh:List (Nat×HEnt (std E N))) (ids:List (Option Nat)),
      A1 (O:=std E N) P gives q params fns ls=some (vs,nh)∧Ents P s q ids nh∧(∀ n∈u,n∈used∨some n∈ids)∧(∀ n∈used,n∈u)∧(∀ n,some n∈ids→n∈u∧n∉used)∧(ids.filterMap id).Nodup∧(∀ p∈nh,p.2.nw=false) ∧
      ∀ (s1:St0 E N) (n0c:Nz) (σc:Nat→Option (Nat×Nat)) (s0:St0 E N),Sub s s1→Frz s1 fr→(∀ b,StB n0 β σ s1 false b→StB n0c noB σc s0 false b)→(Qp args=false→∀ b e blk,s.getB b=some e→β b=some blk→StB n0c noB σc s0 false ⟨blk,true⟩)→Wired σ σc s0 q ids nh→RelArgs P n0c noB σc s0 w vs vals
  | [],[],[],gives,fns,used,u,ls,fr,k,k',_,_,hf,h=>by
    cases zzc h;simp only [Hn] at hf;cases hf;intro q;exact ⟨fun _ _ hm=>by simp at hm,[],[],[],rfl,trivial,fun n hn=>.inl hn,fun n hn=>hn,fun n hn=>by simp at hn,List.nodup_nil,fun p hp=>by simp at hp,fun _ _ _ _ _ _ _ _ _=>trivial⟩
  | t::params,.tup y::args,v::vals,gives,fns,used,u,ls,fr,k,k',hr,ha,hf,h=>by simp [Hn] at hf
  | t::params,.val y::args,v::vals,gives,fns,used,u,ls,fr,k,k',hr,ha,hf,h=>by
    intro q;cases hy:fnV y with
    | some fc =>
      obtain ⟨f,caps⟩:=fc;have:=gy hy;subst this;obtain ⟨hl,ha2⟩:=pK ha;simp only [Hn,zzp] at hf;obtain ⟨fns2,hf2,rfl⟩:=hf;obtain ⟨ts0,k1,h1,h2⟩:=zza h;have hct:=zzh h1;obtain ⟨cl,k2,h3,h4⟩:=zza h2;obtain ⟨⟨ls2,fr2,u2⟩,k3,h5,h6⟩:=zza h4;cases zzc h6;obtain ⟨b0,vs,nh,ids,b1,b2,b3,b4,b5,b6,b7,b8⟩:=SW m hr.2 ha2 hf2 (gives:=gives.tail) h5 q;obtain ⟨caps',c1,c2,c3⟩:=fJ m h3 ls2;refine ⟨b0,one (.fn f caps')::vs,nh,ids,by simp only [A1,hl,hct,c1,b1];rfl,b2,b3,b4,b5,b6,b7,fun s1 n0c σc s0 hs hfz hst hbx hw=>⟨?_,b8 s1 n0c σc s0 hs hfz hst (fun hn=>hbx (by
        cases caps with
        | nil=>exact hn
        | cons c r=>rfl)) hw⟩⟩
      refine ⟨?_,hr.1.2⟩;have h1:=hr.1.1
      revert h1
      generalize v.cells.toList=L;intro h1
      match L,h1 with
      | [z],h1 =>
        obtain ⟨vs2,e1,e2,e3⟩:=h1.1;exact ⟨⟨vs2,e1,by rw [c2];exact e2,c3 n0c σc s0 (fun hne=>hbx (by
          cases caps with
          | nil=>exact absurd rfl hne
          | cons c r=>rfl)) vs2 e3⟩,trivial⟩
    | none =>
      obtain ⟨hl,l,htl,hag,hk,ha2⟩:=mv hy ha;have hf2:Hn args=some fns:=by
        rw [nW hy] at hf
        split at hf
        · exact hf
        · cases hf
      rw [fj hy] at h
      split at h
      · rename_i hg;obtain ⟨⟨ls1,u1⟩,k1,h1,h2⟩:=zza h;obtain ⟨⟨ls2,fr2,u2⟩,k2,h3,h4⟩:=zza h2;cases zzc h4;obtain ⟨cs',nh1,ids1,a1,a2,a3,a4,a5,a6,a8,a7⟩:=LZ m hr.1.1 hk h1 q ls2;obtain ⟨b0,vs,nh2,ids2,b1,b2,b3,b4,b5,b6,b7,b8⟩:=SW m hr.2 ha2 hf2 h3 (q+nh1.length);have hlen:=a2.len;refine ⟨b0,.val { agg:=AR P t,cs:=cs' }::vs,nh1++nh2,ids1++ids2,?_,a2.append b2,fun n hn=>?_,fun n hn=>b4 n (a4 n hn),fun n hn=>?_,?_,fun p hp=>(List.mem_append.1 hp).elim (a8 p) (b7 p),fun s1 n0c σc s0 hs hfz hst hbx hw=>⟨⟨a7 n0c σc s0 (hw.left hlen),?_⟩,b8 s1 n0c σc s0 hs hfz hst (fun hn=>hbx ((bn hy).trans hn)) (hw.right hlen)⟩⟩
        · have hg':gives.headD false=true:=hg;cases hl2:AH P t<;>first | (exact absurd hl2 hl) | (simp only [A1,hl2,htl,hg',a1,b1];rfl)
        · rcases b3 n hn with h | h
          · rcases a3 n h with h | h
            · exact .inl h
            · exact .inr (List.mem_append_left _ h)
          · exact .inr (List.mem_append_right _ h)
        · rcases List.mem_append.1 hn with h | h
          · exact ⟨b4 n (a5 n h).1,(a5 n h).2⟩
          · exact ⟨(b5 n h).1,fun hm=>(b5 n h).2 (a4 n hm)⟩
        · rw [List.filterMap_append];refine List.nodup_append.2 ⟨a6,b6,fun x hx y hy hxy=>?_⟩;have hx2:some x∈ids1:=by simpa using hx
          have hy2:some y∈ids2:=by simpa using hy
          exact (b5 y hy2).2 (hxy▸(a5 x hx2).1)
        · rw [← hag];exact hr.1.2
      · rename_i hg;obtain ⟨⟨ls1,f1,nw1⟩,k1,h1,h2⟩:=zza h;obtain ⟨⟨ls2,fr2,u2⟩,k2,h3,h4⟩:=zza h2;cases zzc h4;obtain ⟨a1,a2,cs',a3,a4⟩:=ep m hr.1.1 hk h1 q ls2;obtain ⟨b0,vs,nh2,ids2,b1,b2,b3,b4,b5,b6,b7,b8⟩:=SW m hr.2 ha2 hf2 h3 q;refine ⟨a1.append b0,.val { agg:=AR P t,cs:=cs' }::vs,nh2,ids2,?_,b2,b3,b4,b5,b6,b7,fun s1 n0c σc s0 hs hfz hst hbx hw=>⟨⟨a4 s1 n0c σc s0 hs hfz.left hst,?_⟩,b8 s1 n0c σc s0 hs hfz.right hst (fun hn=>hbx ((bn hy).trans hn)) hw⟩⟩
        · have hg':gives.headD false=false:=hg;cases hl2:AH P t<;>first | (exact absurd hl2 hl) | (simp only [A1,hl2,htl,hg',a3,List.length_nil,Nat.add_zero,b1];rfl)
        · rw [← hag];exact hr.1.2
  | [],_::_,_,_,_,_,_,_,_,_,_,_,ha,_,_=>by simp [GR] at ha
  | _::_,[],_,_,_,_,_,_,_,_,_,_,ha,_,_=>by simp [GR] at ha
  | _,[],_::_,_,_,_,_,_,_,_,_,hr,_,_,_=>hr.elim
  | _,_::_,[],_,_,_,_,_,_,_,_,hr,_,_,_=>hr.elim
end
end Go.Px
end
