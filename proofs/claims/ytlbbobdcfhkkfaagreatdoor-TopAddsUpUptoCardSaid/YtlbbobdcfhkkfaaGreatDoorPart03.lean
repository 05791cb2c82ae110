/- Part 3. -/
import Derived.Test.YtlbbobdcfhkkfaaGreatDoorPart02
set_option linter.unusedVariables false
set_option linter.unusedSimpArgs false
section
namespace Go.Px
section
variable {E:Env} {N:Nat} {P:Program} {n0:Nz} {nt:Nat} {β:Nat→Option Nat} {σ:Nat→Option (Nat×Nat)} {s:St0 E N} {a:Act} {w:World}
theorem GC {α:Type}:∀ {l:List α} {off:Nat} {r l':List α},Dn l off r=some l'→l'=l.take off++r++l.drop (off+r.length)∧(r=[]∨off+r.length≤l.length)
 | l,off,[],l',h=>by simp only [Dn] at h;cases h;simp
 | [],off,y::ys,l',h=>by simp [Dn] at h
 | x::l,0,y::ys,l',h=>by
  simp only [Dn,zzo] at h;obtain ⟨m,hm,rfl⟩:=h;obtain ⟨h1,h2⟩:=GC hm;refine ⟨by rw [h1];simp [Nat.add_comm],.inr ?_⟩
  rcases h2 with rfl | h2
  ·simp
  ·simp at h2 ⊢;omega
 | x::l,n+1,y::ys,l',h=>by
  simp only [Dn,zzo] at h;obtain ⟨m,hm,rfl⟩:=h;obtain ⟨h1,h2⟩:=GC hm;refine ⟨by rw [h1];simp only [List.take_succ_cons,List.cons_append,List.length_cons,List.cons.injEq,true_and];rw [show n+1+(ys.length+1)=n+(ys.length+1)+1 by omega,List.drop_succ_cons],.inr ?_⟩
  rcases h2 with h2 | h2
  ·cases h2
  ·simp at h2 ⊢;omega
theorem Ml {cs r cs' : List (AC0 E N)} {off : Nat} {vs us : List Value} (h : Dn cs off r = some cs') (hc : RelCs P n0 β σ s w cs vs) (hr : RelCs P n0 β σ s w r us) :
    RelCs P n0 β σ s w cs' (vs.take off++us++vs.drop (off+us.length)):=by
  obtain ⟨rfl,_⟩:=GC h;have hl:=RelCs.length hr;refine RelCs.append (RelCs.append (RelCs.take off hc) hr) ?_;rw [hl];exact RelCs.drop _ hc
theorem iA {cs r cs':List (AC0 E N)} {off n:Nat} (h:Dn cs off r=some cs') (hn:n∈AH cs'):n∈AH cs∨n∈AH r:=by
 obtain ⟨rfl,_⟩:=GC h;rw [Bb] at hn;obtain ⟨c,hc,hm⟩:=hn;rw [List.mem_append,List.mem_append] at hc
 rcases hc with (hc | hc) | hc
 ·exact .inl (Bb.2 ⟨c,List.mem_of_mem_take hc,hm⟩)
 ·exact .inr (Bb.2 ⟨c,hc,hm⟩)
 ·exact .inl (Bb.2 ⟨c,List.mem_of_mem_drop hc,hm⟩)
theorem oF {α : Type} (l : List α) (k : Nat) (v : α) (rest : List α) (h : k + (rest.length + 1) ≤ l.length) :
    (l.set k v).take (k+1)++rest++(l.set k v).drop (k+1+rest.length)=l.take k++(v::rest)++l.drop (k+(rest.length+1)):=by
  have h1:(l.set k v).take (k+1)=l.take k++[v]:=by
    apply List.ext_getElem?;intro j;simp only [List.getElem?_take,List.getElem?_set,List.getElem?_append,List.length_take]
    by_cases hj:j<k
    · have:¬ k=j:=by omega
      simp [hj,this,show j<k+1 by omega,show j<min k l.length by omega]
    · by_cases hjk:j=k
      · subst hjk;have:j<l.length:=by omega
        simp [this,show ¬ j<min j l.length by omega,show j - min j l.length=0 by omega]
      · have h2:¬ j<k+1:=by omega
        have h3:min k l.length=k:=by omega
        simp [h2,h3,hj];omega
  have h2:(l.set k v).drop (k+1+rest.length)=l.drop (k+(rest.length+1)):=by
    apply List.ext_getElem?;intro j;simp only [List.getElem?_drop,List.getElem?_set];have:¬ k=k+1+rest.length+j:=by omega
    simp [this];congr 1;omega
  rw [h1,h2];simp
theorem ke (off : Nat) : ∀ (xs : List Value) (k : Nat) (cs : Array Value), off + k + xs.length ≤ cs.size →
    ((xs.zipIdx k).foldl (fun cs (x:Value×Nat)=>cs.setIfInBounds (off+x.2) x.1) cs).toList=cs.toList.take (off+k)++xs++cs.toList.drop (off+k+xs.length)
  | [],k,cs,h=>by simp
  | x::xs,k,cs,h=>by
    simp only [List.zipIdx_cons,List.foldl_cons];rw [ke off xs (k+1) _ (by simp at h ⊢;omega)];simp only [Array.toList_setIfInBounds];have:=oF cs.toList (off+k) x xs (by simp at h ⊢;omega);simpa [Nat.add_assoc] using this
theorem sC (off : Nat) (v cells : Array Value) (h : off + v.size ≤ cells.size) :
    (v.zipIdx.foldl (fun cs (x:Value×Nat)=>cs.setIfInBounds (off+x.2) x.1) cells).toList=cells.toList.take off++v.toList++cells.toList.drop (off+v.size):=by
  rw [← Array.foldl_toList];have:=ke off v.toList 0 cells (by simpa using h);simpa [Array.toList_zipIdx] using this
theorem Tn (hs : Sim P n0 nt β σ s a w) {ctx : List (Nat × Bool)} (hf : Facts a ctx) {place : Nat → Option (Nat × TypeId)} {place' : Nat → Option (Nat × Nat)}
    (hpl:∀ i off T,place i=some (off,T)→place' i=some (off,P.cellsOf T)):∀ {parts:List (Nat×Operand)} {cs cs':List (AC0 E N)} {cells:Array Value} {m m':Nat},
    RM.run s (U1 P place ctx parts cs) m=.ok (cs',m')→RelCs P n0 β σ s w cs cells.toList →
    ∃ cells',Instr.fill place' cells (parts.map fun (i,x)=>(i,a.eval x))=some cells'∧RelCs P n0 β σ s w cs' cells'.toList∧cs'.length=cs.length ∧
      ∀ n,Fresh a s n→n∉AH cs→n∉AH cs'
  | [],cs,cs',cells,m,m',h,hr=>by cases zzc h;exact ⟨cells,rfl,hr,rfl,fun n _ h=>h⟩
  | (i,x)::parts,cs,cs',cells,m,m',h,hr=>by
    simp only [U1] at h
    split at h
    · exact (zzb h).elim
    · rename_i off T hp;obtain ⟨v,m1,h1,h2⟩:=zza h;obtain ⟨u,m2,h3,h4⟩:=zza h2;have hg:=zzd h3;simp only [zzj] at hg;have hsz:=AE.1 hg.1;have hpos:=Bv.1 hg.2;obtain ⟨hv,hn⟩:=MK hs hf h1
      split at h4
      · rename_i cs2 hcs2;have hlen:=RelCs.length hv.1;have hvs:(a.eval x).cells.size=P.cellsOf T:=by rw [← hsz,hlen];simp
        obtain ⟨e1,e2⟩:=GC hcs2;have hcl:=RelCs.length hr;have hrr:=Ml hcs2 hr hv.1;simp only [List.map_cons,Instr.fill,hpl i off T hp,hvs]
        by_cases hfit:off+P.cellsOf T≤cells.size
        · have hne:¬ (P.cellsOf T≠P.cellsOf T∨off+P.cellsOf T > cells.size):=by omega
          have hfc:=sC off (a.eval x).cells cells (by omega);have hrr':RelCs P n0 β σ s w cs2 ((a.eval x).cells.zipIdx.foldl (fun cs (x:Value×Nat)=>cs.setIfInBounds (off+x.2) x.1) cells).toList:=by
            rw [hfc];simpa using hrr
          obtain ⟨cells',f1,f2,f3,f4⟩:=Tn hs hf hpl h4 hrr';refine ⟨cells',?_,f2,?_,fun n hf hc=>f4 n hf (fun hx=>(iA hcs2 hx).elim hc (hn n hf))⟩
          · simpa [hfit,Nat.not_lt.2 hfit] using f1
          · rw [f3,e1];simp;have:v.cs.length=P.cellsOf T:=hsz;have:cells.toList.length=cells.size:=by simp
            omega
        · exfalso
          rcases e2 with h0 | h0
          · rw [h0] at hpos;simp at hpos
          · have:cells.toList.length=cells.size:=by simp
            omega
      · exact (zzb h4).elim
theorem HF {T : TypeId} {z : Val (std E N)} (h : JF P T = some z) : ∃ i v, P.info? T = some i ∧ i.zero = some v ∧ (zeroValue T).run P w = .ok v w ∧
    RelVal P n0 β σ s w z v∧AH z.cs=[]∧∀ u∈v.cells.toList,u.oneCell'=true:=by
  unfold JF at h
  split at h
  · rename_i i hi
    split at h
    · rename_i v hv;obtain ⟨r,n,o⟩:=fm (n0:=n0) (β:=β) (σ:=σ) (s:=s) (w:=w) h;exact ⟨i,v,hi,hv,by simp [zeroValue,typeInfo,hi,hv],r,n,o⟩
    · cases h
  · cases h
theorem Ax {op : BinOp} {T : TypeId} {x y : Operand} {u v r : Value} (h1 : (eqGuard op T x y u v).run P w = .ok () w) (h2 : (binOp op T u v).run P w = .ok r w) :
    (do eqGuard op T x y u v;binOp op T u v:Sem Value).run P w=.ok r w:=by
  simp only [Sem.run_bind,h1,Result.andThen_ok,h2]
theorem xU {op : BinOp} {T yT : TypeId} {x y : Operand} {p q : Val (std E N)} {u v : Value} {as : List Bool} {r : AV (std E N)} {fr : List (Nat × Option (HEnt (std E N)))} {m m' : Nat}
    (hp:RelVal P n0 β σ s w p u) (hq:RelVal P n0 β σ s w q v) (hy:∀ k n,y=.const (.int k n)→v=.int k n)
    (h:RM.run s (sV P op T y p q) m=.ok ((as,r,fr),m')) (has:∀ b∈as,b=true) :
    ∃ z,(do eqGuard op T x y u v;binOp op T u v:Sem Value).run P w=.ok z w∧RelAV P n0 β σ s w r z∧r.names=[]∧fr=[]:=by
  obtain ⟨pa,pc⟩:=p;obtain ⟨qa,qc⟩:=q;unfold sV at h;simp only at h
  split at h
  ·
    rename_i k i k' j;have hu:u=.int k i:=FY hp;have hv:v=.int k' j:=FY hq
    split at h
    · rename_i l hl;subst hu;subst hv;have hg:∀ op,(eqGuard op T x y (.int k i) (.int k' j)).run P w=.ok () w:=fun op=>GZ op T x y _ _ rfl (by simp)
      have hj:¬ ((j:Int)<0):=by
        refine Int.not_lt.2 ?_;cases hn:bC y with
        | true =>
          unfold bC at hn
          split at hn
          · have:=hy _ _ rfl;cases this;exact of_decide_eq_true hn
          · cases hn
        | false =>
          rw [hn] at h;cases zzc h;exact of_decide_eq_true (show decide ((0:Int)≤j)=true from has _ (List.mem_singleton.2 rfl))
      have hz:(binOp op T (.int k i) (.int k' j)).run P w=.ok (.int k (tG l k i j)) w:=by
        unfold AAN at hl
        split at hl
        · cases hl;simp [binOp,Op.shift,hj,tG]
        · cases hl;simp [binOp,Op.shift,hj,tG]
        · cases hl
      cases hn:bC y with
      | true=>rw [hn] at h;cases zzc h;exact ⟨_,Ax (hg _) hz,Aj rfl,rfl,rfl⟩
      | false=>rw [hn] at h;cases zzc h;exact ⟨_,Ax (hg _) hz,Aj rfl,rfl,rfl⟩
    split at h
    · exact (zzb h).elim
    · rename_i hk;have:=Hb.1 hk;subst this;subst hu;subst hv;have hg:∀ op,(eqGuard op T x y (.int k i) (.int k j)).run P w=.ok () w:=fun op=>GZ op T x y _ _ rfl (by simp)
      split at h
      · rename_i c hc;have hz:(binOp op T (.int k i) (.int k j)).run P w=.ok (.int k (eD c k i j)) w:=by
          unfold yR at hc
          split at hc
          · cases hc;simp [binOp,Op.intBits,eD]
          · cases hc;simp [binOp,Op.intBits,eD]
          · cases hc;simp [binOp,Op.intBits,eD]
          · cases hc;simp [binOp,Op.intBits,eD]
          · cases hc
        cases zzc h;exact ⟨_,Ax (hg _) hz,Aj rfl,rfl,rfl⟩
      split at h
      · cases zzc h;exact ⟨_,Ax (hg _) (by simp [binOp,Op.intArith]),Aj rfl,rfl,rfl⟩
      · cases zzc h;exact ⟨_,Ax (hg _) (by simp [binOp,Op.intArith]),Aj rfl,rfl,rfl⟩
      · cases zzc h;exact ⟨_,Ax (hg _) (by simp [binOp,Op.intArith]),Aj rfl,rfl,rfl⟩
      · have hj : (j : Int) ≠ 0 := by
          cases hn:Iq y with
          | true=>obtain ⟨k2,n2,rfl,hn2⟩:=W0 hn;have:=hy _ _ rfl;cases this;exact hn2
          | false =>
            rw [hn] at h;cases zzc h;have:=has _ (List.mem_singleton.2 rfl);have h2:(!((j:Int)==(0:Int)))=true:=this;intro h0;rw [h0] at h2;simp at h2
        have hz:(binOp .quo T (.int k i) (.int k j)).run P w=.ok (.int k (k.wrap (Int.tdiv i j))) w:=by simp [binOp,Op.intDiv,hj]
        cases hn:Iq y with
        | true=>rw [hn] at h;cases zzc h;exact ⟨_,Ax (hg _) hz,Aj rfl,rfl,rfl⟩
        | false=>rw [hn] at h;cases zzc h;exact ⟨_,Ax (hg _) hz,Aj rfl,rfl,rfl⟩
      · have hj : (j : Int) ≠ 0 := by
          cases hn:Iq y with
          | true=>obtain ⟨k2,n2,rfl,hn2⟩:=W0 hn;have:=hy _ _ rfl;cases this;exact hn2
          | false =>
            rw [hn] at h;cases zzc h;have:=has _ (List.mem_singleton.2 rfl);have h2:(!((j:Int)==(0:Int)))=true:=this;intro h0;rw [h0] at h2;simp at h2
        have hz:(binOp .rem T (.int k i) (.int k j)).run P w=.ok (.int k (Int.tmod i j)) w:=by simp [binOp,Op.intDiv,hj]
        cases hn:Iq y with
        | true=>rw [hn] at h;cases zzc h;exact ⟨_,Ax (hg _) hz,Aj rfl,rfl,rfl⟩
        | false=>rw [hn] at h;cases zzc h;exact ⟨_,Ax (hg _) hz,Aj rfl,rfl,rfl⟩
      · split at h
        · rename_i c hc;cases zzc h;exact ⟨_,Ax (hg _) (xk hc T k),Aj rfl,rfl,rfl⟩
        · exact (zzb h).elim
  ·
    rename_i x1 y1;have hu:u=.string x1:=FY hp;have hv:v=.string y1:=FY hq;subst hu;subst hv;have hg:∀ op,(eqGuard op T x y (.string x1) (.string y1)).run P w=.ok () w:=fun op=>GZ op T x y _ _ rfl (by simp)
    split at h
    · cases zzc h;exact ⟨_,Ax (hg _) (by simp only [binOp_string_eql,Sem.run_pure]),Aj rfl,rfl,rfl⟩
    · cases zzc h;exact ⟨_,Ax (hg _) (by simp only [binOp_string_neq,Sem.run_pure]),Aj rfl,rfl,rfl⟩
    · cases zzc h;exact ⟨_,Ax (hg _) (by simp only [binOp_string_lss,Sem.run_pure]),Aj rfl,rfl,rfl⟩
    · cases zzc h;have h1:=has _ zzl;have h2:=has _ (zzm _ zzl);have h1:=of_decide_eq_true (show decide _=true from h1);have h2:=of_decide_eq_true (show decide _=true from h2);have h3:((ByteArray.size x1:Nat):Int)≤17592186044416:=h1.2.1;have h4:((ByteArray.size y1:Nat):Int)≤17592186044416:=h2.2.1;refine ⟨_,Ax (hg _) ?_,Aj rfl,rfl,rfl⟩;have h5:¬ (((ByteArray.size x1+ByteArray.size y1:Nat):Int) > IntKind.i64.max):=by
        simp only [IntKind.max,IntKind.signed,IntKind.bits];simp;omega
      simp [binOp,Op.stringOp];omega
    · exact (zzb h).elim
  ·
    rename_i hni hns;have gen : ∀ (b : Bool) (ts : List TypeId), AW P T = some ts → (pa == Ad P T && qa == Ad P T && XV P DQ T && !P.eqGuardType P.depth T && Bx P ts pc && Bx P ts qc) = true →
        K8 (O:=std E N) pc qc=some b→∃ z:Unit,((do eqGuard .eql T x y u v;binOp .eql T u v:Sem Value).run P w=.ok (.bool b) w∧(do eqGuard .neq T x y u v;binOp .neq T u v:Sem Value).run P w=.ok (.bool !b) w)∧z=():=by
      intro b ts hts hc he;simp only [zzj,beq_iff_eq,Bool.not_eq_true'] at hc;obtain ⟨⟨⟨⟨⟨h1,h2⟩,h3⟩,h4⟩,h5⟩,h6⟩:=hc;refine ⟨(),?_,rfl⟩;have heq:=Vz (P:=P) (n0:=n0) (β:=β) (σ:=σ) (s:=s) (w:=w) DQ 10000 T ts pc qc u.cells.toList v.cells.toList b (by simp [DQ]) h3 hts hp.1 hq.1 h5 h6 he;cases hag:Ad P T with
      | true =>
        rw [hag] at h1 h2;subst h1;subst h2;obtain ⟨us,rfl,_⟩:=Oa hp;obtain ⟨vs,rfl,_⟩:=Oa hq;have hm:∀ xs:Array Value,J1 P T (Value.agg xs).cells.toList=.agg xs:=fun xs=>by simp [J1,hag,Value.cells]
        rw [hm,hm] at heq;exact ⟨Ax (run_eqGuard_agg w _ T x y us vs h4) (by rw [run_eql_struct,heq];rfl),Ax (run_eqGuard_agg w _ T x y us vs h4) (by rw [run_neq_struct,heq];rfl)⟩
      | false =>
        rw [hag] at h1 h2;subst h1;subst h2;have ou:=hp.2;have ov:=hq.2;simp only at ou ov;have lp:=RelCs.length hp.1;have lq:=RelCs.length hq.1;rw [Bf ou] at lp;rw [Bf ov] at lq
        match pc,qc,lp,lq with
        | [c1],[c2],_,_ =>
          have r1:=FY hp;have r2:=FY hq;have he2:eqC (O:=std E N) c1 c2=some b:=he;unfold eqC at he2
          split at he2
          · exact (hni _ _ _ _ rfl rfl rfl rfl).elim
          · rename_i i j _ _;cases he2;have hu:u=.bool i:=r1;have hv:v=.bool j:=r2;subst hu;subst hv;have hm:∀ c:Bool,J1 P T (Value.bool c).cells.toList=.bool c:=fun c=>by simp [J1,hag,Value.cells]
            rw [hm,hm] at heq;exact ⟨Ax (GZ _ T x y _ _ rfl (by simp)) (by simp only [binOp,Op.equal,Op.maxDepth,Sem.run_bind,heq,Result.andThen_ok,Sem.run_pure]),
              Ax (GZ _ T x y _ _ rfl (by simp)) (by simp only [binOp,Op.equal,Op.maxDepth,Sem.run_bind,heq,Result.andThen_ok,Sem.run_pure])⟩
          · exact (hns _ _ rfl rfl rfl rfl).elim
          · cases he2
    split at h
    · exact (zzb h).elim
    · rename_i ts hts
      split at h
      · rename_i b hc he;cases zzc h;obtain ⟨z,hz,rfl⟩:=gen b ts hts hc he;exact ⟨_,hz.1,Aj rfl,rfl,rfl⟩
      · rename_i b hc he;cases zzc h;obtain ⟨z,hz,rfl⟩:=gen b ts hts hc he;exact ⟨_,hz.2,Aj rfl,rfl,rfl⟩
      · exact (zzb h).elim
theorem Ha (k:IntKind) (i:Int):(asIntOf (.int k i)).run P w=.ok (k,i) w:=rfl
theorem js (hs : Sim P n0 nt β σ s a w) {T : TypeId} {p : AC0 E N} {ix : Operand} {v : Value} {k : IntKind} {i : Int} {as : List Bool} {r : AV (std E N)}
    {fr:List (Nat×Option (HEnt (std E N)))} {m m':Nat} (hp:RelC P n0 β σ s w p v) (hc:∀ k' n,ix=.const (.int k' n)→i=n)
    (h:RM.run s (V5 P T p ix i) m=.ok ((as,r,fr),m')) (has:∀ b∈as,b=true) :
    ∃ z,(Instr.indexAt T v (.int k i)).run P w=.ok z w∧RelAV P n0 β σ s w r z∧(∀ n∈r.names,n∈p.names)∧fr=[]:=by
  unfold V5 at h
  split at h
  ·
    rename_i n e hu;obtain ⟨_,m1,hg,h2⟩:=zza h;clear h;obtain ⟨ti,hti⟩:=D7 (Bv.1 (zzd hg));have run : ∀ (blk o : Nat), v = .pointer (some ⟨blk, o, none⟩) → 0 ≤ i → i < (n : Int) →
        (Instr.indexAt T v (.int k i)).run P w=.ok (.pointer (some ⟨blk,o+i.toNat * P.cellsOf e,none⟩)) w:=by
      intro blk o hv h0 h1;subst hv;simp [Instr.indexAt,Ha,run_underlying hu,Instr.sureAddr,h0,h1,BS hti,Fu]
    split at h2
    · rename_i k' c;have hic:=hc _ _ rfl;subst hic
      split at h2
      · rename_i p' hd hp';cases zzc h2;have hb:0≤i∧i<(n:Int):=of_decide_eq_true hd;obtain ⟨blk,o,hv,hr,hn⟩:=fY hp' hp;exact ⟨_,run blk o hv hb.1 hb.2,Aj hr,fun n hm=>by simpa [AV.names,one,AH,hn] using hm,rfl⟩
      · exact (zzb h2).elim
    · split at h2
      · rename_i b off;cases zzc h2;have h1:decide (0≤i∧i<(n:Int))=true:=has _ zzl;have hb:0≤i∧i<(n:Int):=of_decide_eq_true h1;obtain ⟨blk,hv,hk⟩:=hp;exact ⟨_,run blk off hv hb.1 hb.2,Aj ⟨hb.1,hb.2,blk,rfl,hk⟩,fun n hm=>by simpa [AV.names,one,AH,AC.names] using hm,rfl⟩
      · exact (zzb h2).elim
  ·
    rename_i e hu;have run : ∀ (blk o len cap : Nat) (ts : List TypeId), AW P e = some ts → v = .slice (some ⟨blk, o, none⟩) len cap → 0 ≤ i → i < (len : Int) →
        (Instr.indexAt T v (.int k i)).run P w=.ok (.pointer (some ⟨blk,o+i.toNat * ts.length,none⟩)) w:=by
      intro blk o len cap ts hts hv h0 h1;obtain ⟨hsz,hpos⟩:=Cw hts;obtain ⟨ti,hti⟩:=D7 (P:=P) (t:=e) (by omega);subst hv;simp [Instr.indexAt,Ha,run_underlying hu,h0,h1,BS hti,Fu,hsz]
    split at h
    · rename_i e' id;obtain ⟨⟨eb,l,nb⟩,m1,hrow,h2⟩:=zza h;obtain ⟨_,m2,hg,h3⟩:=zza h2;clear h h2;have he:=AE.1 (zzd hg);subst he;cases zzc h3;obtain ⟨m3,hrow⟩:=zzf hrow;cases hh:s.getH id with
      | none=>rw [hh] at hrow;exact (zzb hrow).elim
      | some e1 =>
        rw [hh] at hrow;have hrr:=zzc hrow;simp only [Prod.mk.injEq] at hrr;obtain ⟨rfl,rfl,rfl⟩:=hrr;have h1:decide (0≤i∧i<((List.length e1.l:Nat):Int))=true:=has _ zzl;have hb:0≤i∧i<((List.length e1.l:Nat):Int):=of_decide_eq_true h1;obtain ⟨⟨te,hte,_⟩,hk⟩:=hp;obtain ⟨he1,ho⟩:=hk e1 hh
        rcases hs.M.H id e1 hh with ⟨t,ts,ht,hts,hrl,hm⟩ | hM
        case inr=>exact (hM.noSl (by rw [he1];exact hte)).elim
        rcases ho with ⟨blk,cap,hsg,hv⟩ | ⟨_,hz,_⟩
        · rw [he1] at hts;refine ⟨_,run blk 0 _ cap ts hts hv hb.1 hb.2,Aj ⟨hb.1,blk,_,rfl,fun h2 hh2=>?_⟩,fun n hm=>by simpa [AV.names,one,AH,AC.names] using hm,rfl⟩;rw [hh] at hh2;cases hh2;refine ⟨hb.2,ts,cap,by rw [he1];exact hts,hsg,⟨?_,te,by rw [he1];exact hte⟩,by omega⟩
          rcases hm with ⟨hn,_⟩ | ⟨blk',cap',_,_,hs',_,_,_,hcap,_⟩
          · rw [hn] at hsg;cases hsg
          · rw [hs'] at hsg;cases hsg;omega
        · rw [hz] at hb;omega
    · rename_i e' nw l;obtain ⟨_,m2,hg,h3⟩:=zza h;clear h;have he:=AE.1 (zzd hg);subst he;cases zzc h3;have h1:decide (0≤i∧i<((List.length l:Nat):Int))=true:=has _ zzl;have hb:0≤i∧i<((List.length l:Nat):Int):=of_decide_eq_true h1;obtain ⟨t,ht,hrep⟩:=hp;have hrep2:=hrep;cases hrep with
      | @sl _ e2 ts a len cap _ vv ht' hts hl hr hc' hm hv =>
        rw [ht] at ht';cases ht'
        rcases hm with hm | ⟨b,off,ha,hb1,hlt,hcell⟩
        · rw [hm] at hl;rw [hl] at hb;omega
        · obtain ⟨b,bc⟩:=b;subst ha;refine ⟨_,run b off len cap ts hts rfl hb.1 (by rw [← hl];exact hb.2),Aj ⟨hb.1,hb.2,t,ts,b,off,len,cap,ht,hts,hrep2,by simp⟩,fun n hm=>by simp [AV.names,one,AH,AC.names] at hm,rfl⟩
    · cases zzc h;have h1:(false:Bool)=true:=has _ zzl;cases h1
    · rename_i b n;obtain ⟨_,m2,hg,h3⟩:=zza h;have he:=AE.1 (zzd hg);obtain ⟨ti,hti⟩:=D7 (P:=P) (t:=e) (by omega);cases zzc h3;have h1:decide (0≤i∧i<(n:Int))=true:=has _ zzl;have hb:0≤i∧i<(n:Int):=of_decide_eq_true h1;obtain ⟨blk,rfl,blk',hv,hk⟩:=hp;cases hv;refine ⟨.pointer (some ⟨blk,0+i.toNat * 1,none⟩),?_,Aj ⟨hb.1,hb.2,blk,rfl,hk⟩,fun n hm=>by simpa [AV.names,one,AH,AC.names] using hm,rfl⟩;simp [Instr.indexAt,Ha,run_underlying hu,hb.1,hb.2,BS hti,Fu,he]
    · exact (zzb h).elim
  · exact (zzb h).elim
theorem tF {T : TypeId} {p : Val (std E N)} {ix : Operand} {v : Value} {k : IntKind} {i : Int} {as : List Bool} {r : AV (std E N)}
    {fr:List (Nat×Option (HEnt (std E N)))} {m m':Nat} (hp:RelVal P n0 β σ s w p v) (hc:∀ k' n,ix=.const (.int k' n)→i=n)
    (h:RM.run s (jg P T p ix i) m=.ok ((as,r,fr),m')) (has:∀ b∈as,b=true) :
    ∃ z,(Instr.index T v (.int k i)).run P w=.ok z w∧RelAV P n0 β σ s w r z∧(∀ n∈r.names,n∈AH p.cs)∧fr=[]:=by
  obtain ⟨pa,pc⟩:=p;unfold jg at h;simp only at h
  split at h
  ·
    rename_i x hu;cases zzc h;have hv:v=.string x:=FY hp;subst hv;have h1:decide (0≤i∧i<((ByteArray.size x:Nat):Int))=true:=has _ zzl;have hb:0≤i∧i<((ByteArray.size x:Nat):Int):=of_decide_eq_true h1;have hlt:i.toNat<ByteArray.size x:=by omega
    refine ⟨_,?_,Aj rfl,fun n hm=>by simp [AV.names,one,AH,AC.names] at hm,rfl⟩;have hg:x[i.toNat]?=some x[i.toNat]:=ByteArray.getElem?_lt' x i.toNat hlt;have hdat:x.data.toList.getD i.toNat 0=x[i.toNat]:=by
      have:i.toNat<x.data.toList.length:=by simpa using hlt
      simp [List.getD,zzn this];rfl
    simp only [Instr.index,Sem.run_bind,Ha,Result.andThen_ok,run_underlying hu,hb.1,if_true,hg,Sem.run_pure,QW,hdat]
  ·
    rename_i n e hu;obtain ⟨vs,rfl,hr⟩:=Oa hp
    split at h
    · rename_i k' c;have hic:=hc _ _ rfl;subst hic
      split at h
      · rename_i r' hd hsl;obtain ⟨_,m1,hg,h2⟩:=zza h;clear h;have hag:=zzd hg;cases zzc h2;have hb:0≤i∧i<(n:Int):=of_decide_eq_true hd;obtain ⟨e1,e2⟩:=Dv hsl;have hrr:=RelCs.take (P.cellsOf e) (RelCs.drop (i.toNat * P.cellsOf e) hr);rw [← e1] at hrr;obtain ⟨⟨d,hud⟩,_⟩:=On hag;obtain ⟨ti,hti⟩:=C2 hud;obtain ⟨z,hz,hrel⟩:=o9 hrr e2 hag;exact ⟨z,by simp [Instr.index,Ha,run_underlying hu,hb.1,hb.2,BS hti,hz],hrel,fun n hm=>Eu hsl hm,rfl⟩
      · exact (zzb h).elim
    · split at h
      · exact (zzb h).elim
      · rename_i n
        split at h
        · rename_i r' hpk;obtain ⟨_,m1,hg,h2⟩:=zza h;clear h;have hag:=zzd hg;cases zzc h2;have h1:decide (0≤i∧i<((n+1:Nat):Int))=true:=has _ zzl;have hb:0≤i∧i<((n+1:Nat):Int):=of_decide_eq_true h1;have hrr:=ZK (P:=P) (n0:=n0) (β:=β) (σ:=σ) (s:=s) (w:=w) (fun k=>(vs.toList.drop (k * P.cellsOf e)).take (P.cellsOf e)) hpk hb.1 (by omega)
            (fun k c hk hc=>by
              have:=RelCs.take (P.cellsOf e) (RelCs.drop (k * P.cellsOf e) hr)
              rwa [← (Dv hc).1] at this)
          have e2:r'.length=P.cellsOf e:=Z4 (fun k c hc=>(Dv hc).2) hpk;obtain ⟨⟨d,hud⟩,_⟩:=On hag;obtain ⟨ti,hti⟩:=C2 hud;obtain ⟨z,hz,hrel⟩:=o9 hrr e2 hag;have hb2:i<(n:Int)+1:=by omega
          refine ⟨z,by simp [Instr.index,Ha,run_underlying hu,hb.1,hb2,BS hti,hz],hrel,fun q hm=>?_,rfl⟩;obtain ⟨c,hc,hmc⟩:=cR hpk q hm;exact Eu hc hmc
        · exact (zzb h).elim
  · exact (zzb h).elim
theorem QN {ctx:List (Nat×Bool)} {x:Option Operand} (h:UV x=true):x=none∨∃ k,x=some (.const (.int k 0)):=by
 unfold UV at h
 split at h
 ·exact .inl rfl
 ·rename_i k n;exact .inr ⟨k,by rw [of_decide_eq_true h]⟩
 ·cases h
theorem YP (hs : Sim P n0 nt β σ s a w) {ctx : List (Nat × Bool)} (hf : Facts a ctx) {d i : Int} {x : Option Operand} {m m' : Nat} (h : RM.run s (gh (O := std E N) ctx d x) m = .ok (i, m')) :
    (x=none∧i=d)∨∃ o k,x=some o∧a.eval o=.int k i:=by
  cases x with
  | none=>exact .inl ⟨rfl,(zzc h).symm⟩
  | some o=>obtain ⟨k,hk⟩:=Wv hs hf h;exact .inr ⟨o,k,rfl,hk⟩
theorem LL {k:IntKind} {i:Int} {y:Nat} {code:BoundsCode} (h0:0≤i) (h1:i≤(y:Int)):(Instr.sliceBound (.int k i) y code).run P w=.ok i.toNat w:=by
 simp [Instr.sliceBound,Ha,h0,h1]
theorem N7 {isSl : Bool} {len cap : Nat} {lo hi : Option Value} {l h : Int} (hlo : (lo = none ∧ l = 0) ∨ ∃ k, lo = some (.int k l)) (hhi : (hi = none ∧ h = len) ∨ ∃ k, hi = some (.int k h))
    (h0:0≤l) (h1:l≤h) (h2:h≤(len:Int)) (h3:len≤cap):(Instr.sliceBounds isSl len cap lo hi none).run P w=.ok (l.toNat,h.toNat,cap) w:=by
  have e2:((h.toNat:Nat):Int)=h:=by omega
  rcases hhi with ⟨rfl,rfl⟩ | ⟨k2,rfl⟩
  · rcases hlo with ⟨rfl,rfl⟩ | ⟨k1,rfl⟩
    · simp [Instr.sliceBounds]
    · simp [Instr.sliceBounds,LL h0 h1]
  · have hb:=fun code=>LL (P:=P) (w:=w) (k:=k2) (i:=h) (y:=cap) (code:=code) (by omega) (by omega)
    rcases hlo with ⟨rfl,rfl⟩ | ⟨k1,rfl⟩
    · cases isSl<;>simp [Instr.sliceBounds,hb]
    · have hl:=fun code=>LL (P:=P) (w:=w) (k:=k1) (i:=l) (y:=h.toNat) (code:=code) h0 (by omega)
      cases isSl<;>simp [Instr.sliceBounds,hb,hl]
theorem Rep.sub {St : Blk → Prop} {t : TypeId} {av : Option Addr} {len cap : Nat} {l : Rows} (h : Rep P w St t (.slice av len cap) (.rows l)) {lo hi : Nat} (h1 : lo ≤ hi) (h2 : hi ≤ len) {e : TypeId} {ts : List TypeId}
    (ht:AL P t=.sl e) (hts:AW P e=some ts) :
    Rep P w St t (.slice (if cap=lo then av else av.map (·.add (lo * ts.length))) (hi - lo) (cap - lo)) (.rows ((l.take hi).drop lo)):=by
  cases h with
  | @sl _ e' ts' _ _ _ _ v ht' hts' hl hr hc hm hv =>
    rw [ht] at ht';cases ht';rw [hts] at hts';cases hts';have hlen:((l.take hi).drop lo).length=hi - lo:=by simp;omega
    have hrow:∀ i,i<hi - lo→AB ((l.take hi).drop lo) i=AB l (lo+i):=fun i hi'=>by
      simp only [AB,List.getD,List.getElem?_drop,List.getElem?_take];rw [if_pos (by omega)]
    refine .sl (fun i j=>v (lo+i) j) ht hts hlen (fun r hr'=>hr r (List.mem_of_mem_take (List.mem_of_mem_drop hr'))) (by omega) ?_ (fun i j t' hi' hj=>?_)
    · by_cases hz:hi - lo=0
      · exact .inl hz
      · rcases hm with hm | ⟨b,off,ha,hb,hlt,hcell⟩
        · omega
        · refine .inr ⟨b,off+lo * ts.length,?_,hb,⟨hlt.1,fun hcc=>(hlt.2 hcc).part (by omega) ?_⟩,fun i j hi' hj=>?_⟩
          · have:¬ cap=lo:=by omega
            rw [if_neg this,ha];simp [Fu]
          · have h9:(lo+(hi - lo)) * ts.length≤len * ts.length:=Nat.mul_le_mul_right _ (by omega);rw [Nat.add_mul] at h9;omega
          · have:=hcell (lo+i) j (by omega) hj;rw [← this];congr 2;rw [Nat.add_mul];omega
    · have:=hv (lo+i) j t' (by omega) hj;unfold AF at this ⊢
      rwa [hrow i hi']
def FrOK (s:St0 E N) (fr:List (Nat×Option (HEnt (std E N)))):Prop :=
 ∀ n v,(n,v)∈fr→∃ h,s.getH n=some h∧v=some { h with frozen:=true,dirty:=true }
theorem uo {fr : List (Nat × Option (HEnt (std E N)))} : ∀ {l : List (Nat × HEnt (std E N))}, (∀ n v, (n, v) ∈ fr → ∃ h, AM s.hp n = some h ∧ v = some { h with frozen := true, dirty := true }) →
    (∀ k h',AM l k=some h'→∃ h,AM s.hp k=some h∧(h'=h∨h'={ h with frozen:=true,dirty:=true })) →
    ∀ k h',AM (BK l fr) k=some h'→∃ h,AM s.hp k=some h∧(h'=h∨h'={ h with frozen:=true,dirty:=true }):=by
  induction fr with
  | nil=>intro l _ hl k h' hk;exact hl k h' hk
  | cons x fr ih =>
    intro l hfr hl k h' hk;obtain ⟨n,v⟩:=x;simp only [BK] at hk;refine ih (fun n v hm=>hfr n v (zzm _ hm)) (fun k h' hk=>?_) k h' hk;rw [BQ] at hk
    split at hk
    · rename_i hkn;obtain ⟨h,h1,h2⟩:=hfr n v zzl;rw [h2] at hk;cases hk;exact ⟨h,by rw [hkn];exact h1,.inr rfl⟩
    · exact hl k h' hk
theorem FrOK.get {fr : List (Nat × Option (HEnt (std E N)))} (h : FrOK s fr) {wr : Wr (std E N)} (hw : wr.hs = fr) (k : Nat) (h' : HEnt (std E N)) (hk : (s.apply wr).getH k = some h') :
    ∃ h,s.getH k=some h∧(h'=h∨h'={ h with frozen:=true,dirty:=true }):=by
  unfold State.apply State.getH at hk;rw [hw] at hk;exact uo h (fun k h' hk=>⟨h',hk,.inl rfl⟩) k h' hk
theorem FrOK.sub {fr:List (Nat×Option (HEnt (std E N)))} (h:FrOK s fr) {wr:Wr (std E N)} (hw:wr.hs=fr) (hb:wr.bs=[]):Sub s (s.apply wr) where
 b n e he:=⟨e,by rw [State.getB_apply0 s wr hb] at he;exact he,rfl⟩
 h n h' hk:=by
  obtain ⟨h0,hh,h1⟩:=h.get hw n h' hk;refine ⟨h0,hh,?_⟩
  rcases h1 with rfl | rfl
  ·exact ⟨rfl,rfl,rfl,id⟩
  ·exact ⟨rfl,rfl,rfl,fun h=>by cases h⟩
theorem Vw {α:Type} {k:Nat} {v:Option α} {l:List (Nat×α)} {ws:List (Nat×Option α)} (h:∀ x∈ws,x.1=k→x.2=v) (hm:∃ x∈ws,x.1=k):AM (BK l ws) k=v:=by
 induction ws generalizing l with
 | nil=>obtain ⟨x,hx,_⟩:=hm;simp at hx
 | cons y ws ih =>
  obtain ⟨n,u⟩:=y;simp only [BK]
  by_cases hex:∃ x∈ws,x.1=k
  ·exact ih (fun x hx=>h x (zzm _ hx)) hex
  ·rw [ZX ws _ k (fun x hx he=>hex ⟨x,hx,he⟩),BQ];obtain ⟨x,hx,he⟩:=hm
   rcases List.mem_cons.1 hx with rfl | hx
   ·rw [if_pos he.symm];exact h _ zzl he
   ·exact (hex ⟨x,hx,he⟩).elim
theorem rh (m : Mem P n0 β σ s w) {id : Nat} {h : HEnt (std E N)} {v : Value} (hh : s.getH id = some h) (hfz : h.frozen = true) (hsl : ∃ t, AL P t = .sl h.e) (ho : mg σ id h.l.length v) :
    ∃ t,AL P t=.sl h.e∧Rep P w (StB n0 β σ s h.nw) t v (.rows h.l):=by
  rcases m.H id h hh with ⟨t,ts,ht,hts,hrl,hm⟩ | hM
  case inr=>exact (hM.noSl hsl.choose_spec).elim
  refine ⟨t,ht,?_⟩
  rcases ho with ⟨blk,cap,hs,rfl⟩ | ⟨hs,hz,x,rfl⟩
  · rcases hm with ⟨hn,_⟩ | ⟨blk',cap',cells,el,hs',hheap,hel,hsz,hcap,hnw,u,hu,hrep⟩
    · rw [hn] at hs;cases hs
    · rw [hs'] at hs;cases hs;refine .sl u ht hts rfl hrl hcap (.inr ⟨⟨blk,true⟩,0,rfl,⟨fun hin=>?_,hnw⟩,⟨Ba hheap,fun _=>.of hheap (hel▸kO ht)⟩,fun i j hi hj=>?_⟩) hrep
      · rcases hin with ⟨b,e,he,hb⟩ | ⟨id',h',cap',hh',hf',hs2⟩
        · exact m.uX b e id h blk cap he hh hb hs'
        · have:=m.uH id id' h h' blk cap cap' hh hh' hs' hs2;subst this;rw [hh] at hh';cases hh';rw [hfz] at hf';cases hf'
      · rw [Dt hheap];simpa using hu i j hi hj
  · have hl:h.l=[]:=List.length_eq_zero_iff.1 hz;rw [hl];exact .sl (fun _ _=>undef) ht hts (by simp) (by simp) (Nat.le_refl _) (.inl rfl) (fun i j t' hi=>by omega)
theorem sZ (hs : Sim P n0 nt β σ s a w) {ctx : List (Nat × Bool)} (hf : Facts a ctx) {T : TypeId} {c : AC0 E N} {lo hi mx : Option Operand} {v : Value} {as : List Bool} {r : AV (std E N)}
    {fr:List (Nat×Option (HEnt (std E N)))} {m m':Nat} (hp:RelC P n0 β σ s w c v) (h:RM.run s (iV P ctx T c lo hi mx) m=.ok ((as,r,fr),m')) (has:∀ b∈as,b=true) :
    ∃ z,(Instr.sliceAt T v (lo.map a.eval) (hi.map a.eval) (mx.map a.eval)).run P w=.ok z w∧RelAV P n0 β σ (s.apply { hs:=fr }) w r z∧r.names=[]∧FrOK s fr:=by
  have frn:FrOK s ([]:List (Nat×Option (HEnt (std E N)))):=fun n v hm=>by simp at hm
  have sub0:∀ {c:AC0 E N} {z:Value},RelC P n0 β σ s w c z→RelC P n0 β σ (s.apply { hs:=[] }) w c z:=fun {c z} hr =>
    ((frn.sub (wr:={ hs:=[] }) rfl rfl).ext P n0 (fun _=>False) β σ w).relC (fun _ _=>id) hr
  have notarr:∀ {d:TypeDesc} {v:Value} {lo hi mx:Option Value},P.underlying T=some d→(∀ n e,d≠.array n e)→(Instr.sliceAt T v lo hi mx).run P w=(Instr.slice T v lo hi mx).run P w:=by
    intro d v lo hi mx hu hd;unfold Instr.sliceAt;rw [Sem.run_bind,run_underlying hu,Result.andThen_ok];cases d<;>first | rfl | exact (hd _ _ rfl).elim
  unfold iV at h
  split at h
  ·
    rename_i m0
    split at h
    · rename_i e' e nw l hu h1 h2 h3
      split at h
      · rename_i hee;have:=AE.1 hee;subst this;cases zzc h;obtain ⟨t,ht,hrep⟩:=hp;cases hrep with
        | @sl _ e2 ts av len cap _ vv ht' hts hl hr hc hm hv =>
          rw [ht] at ht';cases ht';obtain ⟨hsz,hpos⟩:=Cw hts;have hpos':=hpos;rw [← hsz] at hpos';obtain ⟨ti,hti⟩:=D7 hpos';simp only [zzj] at h2;have e1:=QN (ctx:=ctx) h1;have e2:∃ k,hi=some (.const (.int k 0)):=by
            rcases QN (ctx:=ctx) h2.1 with rfl | h
            · simp at h2
            · exact h
          have e3:∃ k,(some m0:Option Operand)=some (.const (.int k 0)):=by
            rcases QN (ctx:=ctx) h3 with h | h
            · cases h
            · exact h
          obtain ⟨k2,rfl⟩:=e2;obtain ⟨k3,e3⟩:=e3;cases e3;have hb:=fun (k:IntKind) (y:Nat) code=>LL (P:=P) (w:=w) (k:=k) (i:=0) (y:=y) (code:=code) (by omega) (by omega)
          refine ⟨.slice av 0 0,?_,sub0 (gK ⟨t,ts,ht,hts,av,rfl⟩ |> FY) |> Aj,rfl,frn⟩;rw [notarr hu (by simp)]
          rcases e1 with rfl | ⟨k1,rfl⟩
          · simp [Instr.slice,run_underlying hu,Instr.sliceBounds,Act.eval,hb,BS hti]
          · simp [Instr.slice,run_underlying hu,Instr.sliceBounds,Act.eval,hb,BS hti]
      · exact (zzb h).elim
    · exact (zzb h).elim
  · split at h
    ·
      rename_i hu
      split at h
      case h_2=>exact (zzb h).elim
      rename_i x;obtain ⟨l,m1,h1,h2⟩:=zza h;obtain ⟨u,m2,h3,h4⟩:=zza h2;cases zzc h4;have hv:v=.string x:=hp;subst hv;have hb:decide (0≤(l:Int)∧(l:Int)≤u∧u≤((ByteArray.size x:Nat):Int))=true:=has _ zzl;have hb:=of_decide_eq_true hb;have b1:=YP hs hf h1;have b2:=YP hs hf h3;have hsb:=N7 (P:=P) (w:=w) (isSl:=false) (len:=ByteArray.size x) (cap:=ByteArray.size x) (lo:=lo.map a.eval) (hi:=hi.map a.eval) (l:=l) (h:=u)
        (by rcases b1 with ⟨rfl, rfl⟩ | ⟨o, k, rfl, hk⟩
            · exact .inl ⟨rfl,rfl⟩
            · exact .inr ⟨k,by simp [hk]⟩)
        (by rcases b2 with ⟨rfl, rfl⟩ | ⟨o, k, rfl, hk⟩
            · exact .inl ⟨rfl,rfl⟩
            · exact .inr ⟨k,by simp [hk]⟩) hb.1 hb.2.1 hb.2.2 (Nat.le_refl _)
      refine ⟨_,?_,Aj (c:=.str _) rfl,rfl,frn⟩;rw [notarr hu (by simp)];simp [Instr.slice,run_underlying hu,hsb]
    ·
      rename_i e' hu;obtain ⟨⟨e,l,nw⟩,m1,hrow,h2⟩:=zza h;obtain ⟨_,m2,hg,h3⟩:=zza h2;obtain ⟨lb,m3,h4,h5⟩:=zza h3;obtain ⟨ub,m4,h6,h7⟩:=zza h5;obtain ⟨lb,rfl⟩:∃ j:Int,j=lb:=⟨lb,rfl⟩;obtain ⟨ub,rfl⟩:∃ j:Int,j=ub:=⟨ub,rfl⟩;have hee:=AE.1 (zzd hg);have b1:=YP hs hf h4;have b2:=YP hs hf h6;have run : ∀ (av : Option Addr) (len cap : Nat) (ts : List TypeId), v = .slice av len cap → AW P e' = some ts → l.length = len → len ≤ cap →
          0≤lb→lb≤ub→ub≤((List.length l:Nat):Int) →
          (Instr.sliceAt T v (lo.map a.eval) (hi.map a.eval) none).run P w =
            .ok (.slice (if cap=Int.toNat lb then av else av.map (·.add (Int.toNat lb * ts.length))) (Int.toNat ub - Int.toNat lb) (cap - Int.toNat lb)) w:=by
        intro av len cap ts hv hts hl hc c1 c2 c3;obtain ⟨hsz,hpos⟩:=Cw hts;obtain ⟨ti,hti⟩:=D7 (P:=P) (t:=e') (by omega);subst hv;have hsb:=N7 (P:=P) (w:=w) (isSl:=true) (len:=len) (cap:=cap) (lo:=lo.map a.eval) (hi:=hi.map a.eval) (l:=lb) (h:=ub)
          (by rcases b1 with ⟨rfl, rfl⟩ | ⟨o, k, rfl, hk⟩
              · exact .inl ⟨rfl,rfl⟩
              · exact .inr ⟨k,by simp [hk]⟩)
          (by rcases b2 with ⟨rfl, rfl⟩ | ⟨o, k, rfl, hk⟩
              · exact .inl ⟨rfl,by show ((List.length l:Nat):Int)=_;rw [hl]⟩
              · exact .inr ⟨k,by simp [hk]⟩) c1 c2 (by rw [← hl];exact c3) hc
        rw [notarr hu (by simp)];simp [Instr.slice,run_underlying hu,hsb,BS hti,hsz]
      cases c with
      | own e0 id =>
        obtain ⟨m5,hrow⟩:=zzf hrow;obtain ⟨m6,h8⟩:=zzf h7;cases hh:s.getH id with
        | none=>rw [hh] at hrow;exact (zzb hrow).elim
        | some en =>
          rw [hh] at hrow h8;have hrr:=zzc hrow;simp only [Prod.mk.injEq] at hrr;obtain ⟨rfl,rfl,rfl⟩:=hrr;subst hee;have hr8:=zzc h8;simp only [Prod.mk.injEq] at hr8;obtain ⟨rfl,rfl,rfl⟩:=hr8;have hb:decide (0≤lb∧lb≤ub∧ub≤((List.length en.l:Nat):Int))=true:=has _ zzl;have hb:=of_decide_eq_true hb;have frk:FrOK s [(id,some { en with frozen:=true,dirty:=true })]:=fun n v hm=>by
            simp only [List.mem_singleton,Prod.mk.injEq] at hm;obtain ⟨rfl,rfl⟩:=hm;exact ⟨en,hh,rfl⟩
          have sub:=frk.sub (wr:={ hs:=[(id,some { en with frozen:=true,dirty:=true })] }) rfl rfl;have hm1:=sub.mem hs.M;have hget:(s.apply { hs:=[(id,some { en with frozen:=true,dirty:=true })] }).getH id=some { en with frozen:=true,dirty:=true }:=by
            unfold State.apply State.getH;simp only [BK,BQ,if_true]
          obtain ⟨⟨te,hte,_⟩,hk⟩:=hp;obtain ⟨he1,ho⟩:=hk en hh;obtain ⟨t,ht,hrep⟩:=rh (h:={ en with frozen:=true,dirty:=true }) hm1 hget rfl ⟨te,by show _=LK.sl en.e;rw [he1];exact hte⟩ ho
          rcases hs.M.H id en hh with ⟨t2,ts,ht2,hts,_⟩ | hM
          case inr=>exact (hM.noSl (by rw [he1];exact hte)).elim
          cases hv:v with
          | slice av len cap =>
            rw [hv] at hrep;have hlen:List.length en.l=len:=by cases hrep;assumption
            have hc:len≤cap:=by cases hrep;assumption
            have hsub:=Rep.sub hrep (lo:=Int.toNat lb) (hi:=Int.toNat ub) (by have:=hb.2.1;omega) (by have:=hb.2.2;omega) ht hts;rw [← hv];exact ⟨_,run av len cap ts hv hts hlen hc hb.1 hb.2.1 hb.2.2,Aj ⟨t,ht,hsub⟩,rfl,frk⟩
          | _=>rw [hv] at hrep;cases hrep
      | imm e0 nw0 l0 =>
        have hrr:=zzc hrow;simp only [Prod.mk.injEq] at hrr;obtain ⟨rfl,rfl,rfl⟩:=hrr;subst hee;cases zzc h7;have hb:decide (0≤lb∧lb≤ub∧ub≤((List.length l0:Nat):Int))=true:=has _ zzl;have hb:=of_decide_eq_true hb;obtain ⟨t,ht,hrep⟩:=hp;have hrep2:=hrep;cases hrep with
        | @sl _ e2 ts av len cap _ vv ht' hts hl hr hc hm hv =>
          rw [ht] at ht';cases ht';have hsub:=Rep.sub hrep2 (lo:=Int.toNat lb) (hi:=Int.toNat ub) (by have:=hb.2.1;omega) (by have:=hb.2.2;omega) ht hts;exact ⟨_,run av len cap ts rfl hts hl hc hb.1 hb.2.1 hb.2.2,Aj (sub0 ⟨t,ht,hsub⟩),rfl,frn⟩
      | nil e0 =>
        have hrr:=zzc hrow;simp only [Prod.mk.injEq] at hrr;obtain ⟨rfl,rfl,rfl⟩:=hrr;subst hee;cases zzc h7;have hb:decide (0≤lb∧lb≤ub∧ub≤((List.length ([]:Rows):Nat):Int))=true:=has _ zzl;have hb:=of_decide_eq_true hb;obtain ⟨t,ts,ht,hts,av,rfl⟩:=hp;have hrep:Rep P w (StB n0 β σ s true) t (.slice av 0 0) (.rows []):=.sl (fun _ _=>undef) ht hts rfl (by simp) (Nat.le_refl _) (.inl rfl) (fun i j t' hi=>by omega);have hsub:=Rep.sub hrep (lo:=Int.toNat lb) (hi:=Int.toNat ub) (by have:=hb.2.1;omega) (by have:=hb.2.2;simp at this;omega) ht hts;exact ⟨_,run av 0 0 ts rfl hts rfl (Nat.le_refl _) hb.1 hb.2.1 hb.2.2,Aj (sub0 ⟨t,ht,hsub⟩),rfl,frn⟩
      | int k i=>exact (zzb hrow).elim
      | bool b=>exact (zzb hrow).elim
      | str x=>exact (zzb hrow).elim
      | ptr b off=>exact (zzb hrow).elim
      | aptr b off n sz i inner=>exact (zzb hrow).elim
      | eptr id i off=>exact (zzb hrow).elim
      | iptr e nw l i off=>exact (zzb hrow).elim
      | fn f caps=>exact (zzb hrow).elim
      | nilptr=>exact (zzb hrow).elim
      | tail e id i=>exact (zzb hrow).elim
      | mp e id=>exact (zzb hrow).elim
      | any T=>exact (zzb hrow).elim
      | opq=>exact (zzb hrow).elim
      | qlit=>exact (zzb hrow).elim
    · exact (zzb h).elim
end
section
variable {E:Env} {N:Nat} {P:Program} {n0:Nz} {nt:Nat} {β:Nat→Option Nat} {σ:Nat→Option (Nat×Nat)} {s:St0 E N} {a:Act} {w:World}
theorem kY (hs : Sim P n0 nt β σ s a w) {ctx : List (Nat × Bool)} (hf : Facts a ctx) : ∀ {xs : List Operand} {l : List (Cap (std E N))} {m m' : Nat}, RM.run s (nW P ctx xs) m = .ok (l, m') →
    (xs.map a.eval).length=l.length∧(∀ (i:Nat) (c:Cap (std E N)),l[i]?=some c→∃ x:Value,(xs.map a.eval)[i]?=some x∧Td P n0 β σ s w c x)∧∀ n,Fresh a s n→n∉JI l
  | [],l,m,m',h=>by cases zzc h;simp [JI]
  | x::xs,l,m,m',h=>by
    obtain ⟨c,m1,h1,h2⟩:=zza h;obtain ⟨hc,_,hn⟩:=C5 hs hf h1;cases c with
    | ptr b off =>
      obtain ⟨l1,m2,h3,h4⟩:=zza h2;cases zzc h4;obtain ⟨e1,e2,e3⟩:=kY hs hf h3;refine ⟨by simpa using e1,fun i c' hi=>?_,fun n hf hm=>?_⟩
      · cases i with
        | zero=>simp at hi;subst hi;exact ⟨_,rfl,hc⟩
        | succ i=>exact e2 i c' (by simpa using hi)
      · rcases List.mem_cons.1 hm with h | h
        · exact hn n hf (by simp [AC.names,h])
        · exact e3 n hf h
    | _=>exact (zzb h2).elim
theorem jN (hs : Sim P n0 nt β σ s a w) {ctx : List (Nat × Bool)} (hf : Facts a ctx) {T : TypeId} : ∀ {xs : List Operand} {cs : List (AC0 E N)} {m m' : Nat}, RM.run s (sj P ctx T xs) m = .ok (cs, m') →
    RelCs P n0 β σ s w cs (xs.map a.eval)
  | [],cs,m,m',h=>by cases zzc h;trivial
  | x::xs,cs,m,m',h=>by
    obtain ⟨c,m1,h1,h2⟩:=zza h;obtain ⟨l,m2,h3,h4⟩:=zza h2;cases zzc h4;exact ⟨(C5 hs hf h1).1,jN hs hf h3⟩
theorem jD {lt : Int → Int → Bool} {f : Value → Value → Sem Value} (hfn : ∀ (k : IntKind) (x y : Int), f (.int k x) (.int k y) = pure (.int k (cond (lt y x) y x))) :
    ∀ {r:List (AC0 E N)} {c m:AC0 E N} {v:Value} {vs:List Value},Zv (O:=std E N) lt c r=some m→RelC P n0 β σ s w c v→RelCs P n0 β σ s w r vs →
    ∃ z,(vs.foldlM f v).run P w=.ok z w∧RelC P n0 β σ s w m z∧(r≠[]→m.names=[])∧(r=[]→m=c)
  | [],c,m,v,vs,h,hc,hr=>by
    cases vs with
    | cons=>exact hr.elim
    | nil =>
      have:m=c:=by cases c<;>(simp only [Zv,Option.some.injEq] at h;exact h.symm)
      subst this;exact ⟨v,by simp,hc,fun h=>(h rfl).elim,fun _=>rfl⟩
  | y::r,c,m,v,vs,h,hc,hr=>by
    cases vs with
    | nil=>exact hr.elim
    | cons u vs =>
      cases c with
      | int k x =>
        cases y with
        | int k' y' =>
          simp only [Zv] at h
          split at h
          · rename_i hk;have:=Hb.1 hk;subst this;have hv:v=.int k x:=hc;have hu:u=.int k y':=hr.1;subst hv;subst hu;have hc2:RelC P n0 β σ s w (AC.int (O:=std E N) k (cond (lt y' x) y' x)) (.int k (cond (lt y' x) y' x)):=rfl;obtain ⟨z,hz,hm,hn,he⟩:=jD hfn h hc2 hr.2;refine ⟨z,?_,hm,fun _=>?_,fun h=>by cases h⟩
            · simp only [List.foldlM_cons,Sem.run_bind,hfn,Sem.run_pure,Result.andThen_ok];exact hz
            · cases hr':r with
              | nil=>rw [he hr'];rfl
              | cons a b=>exact hn (by rw [hr'];simp)
          · cases h
        | _=>simp [Zv] at h
      | _=>simp [Zv] at h
theorem vI (hs : Sim P n0 nt β σ s a w) {ctx : List (Nat × Bool)} (hf : Facts a ctx) {ty : TypeId} {n : Nat} {x y : Operand} {as : List Bool} {r : AV (std E N)}
    {fr:List (Nat×Option (HEnt (std E N)))} {m m':Nat} (h:RM.run s (uJ P ctx ty n x y) m=.ok ((as,r,fr),m')) :
    ∃ c z,a.tmps.getD n undef=.bool c∧z=(if c then a.eval x else a.eval y)∧RelAV P n0 β σ s w r z∧r.names=[]∧fr=[]:=by
  obtain ⟨m1,h⟩:=zze h;cases hg:s.getT n with
  | none=>rw [hg] at h;exact (zzb h).elim
  | some tv =>
    rw [hg] at h;simp only at h
    split at h
    · rename_i c hin hv;obtain ⟨u,m2,h1,h2⟩:=zza h;obtain ⟨v,m3,h3,h4⟩:=zza h2;have hn:a.tmps.getD n undef=.bool c:=by
        rcases hs.T n _ hg with ⟨_,hr⟩ | ⟨hnf,_⟩
        · rw [hv] at hr;exact FY hr
        · exact (hnf (hf.of_in hin)).elim
      split at h4
      · rename_i cs hag hm;cases zzc h4;have hag':u.agg=v.agg:=by simpa using hag
        refine ⟨c,_,hn,rfl,?_,Mq hm,rfl⟩;cases c with
        | true =>
          have hf2:Facts a ((n,true)::ctx):=fun k b hk=>by
            rcases List.mem_cons.1 hk with e | hk
            · cases e;exact hn
            · exact hf k b hk
          obtain ⟨hr,_⟩:=MK hs hf2 h1;obtain ⟨h5,_,_⟩:=Jo (P:=P) (n0:=n0) (β:=β) (σ:=σ) (s:=s) (w:=w) (vs:=(a.eval x).cells.toList) hm (fun _=>hr.1) (fun e=>by cases e);exact ⟨h5,hr.2⟩
        | false =>
          have hf2:Facts a ((n,false)::ctx):=fun k b hk=>by
            rcases List.mem_cons.1 hk with e | hk
            · cases e;exact hn
            · exact hf k b hk
          obtain ⟨hr,_⟩:=MK hs hf2 h3;obtain ⟨h5,_,_⟩:=Jo (P:=P) (n0:=n0) (β:=β) (σ:=σ) (s:=s) (w:=w) (vs:=(a.eval y).cells.toList) hm (fun e=>by cases e) (fun _=>hr.1);refine ⟨h5,?_⟩;have:=hr.2;simp only [hag'];exact this
      · exact (zzb h4).elim
    · exact (zzb h).elim
theorem RelVals.get:∀ {cs:List (Val (std E N))} {vs:List Value},RelVals P n0 β σ s w cs vs→∀ {i:Nat} {c:Val (std E N)},cs[i]?=some c→∃ v,vs[i]?=some v∧RelVal P n0 β σ s w c v
 | c::cs,x::vs,h,0,c',hc=>by simp at hc;subst hc;exact ⟨x,rfl,h.1⟩
 | c::cs,x::vs,h,i+1,c',hc=>by
  obtain ⟨v,hv,hr⟩:=RelVals.get h.2 (i:=i) (by simpa using hc);exact ⟨v,by simpa using hv,hr⟩
 | [],_,_,i,c',hc=>by simp at hc
 | _::_,[],h,_,_,_=>h.elim
theorem lZ {cs:List (Val (std E N))} {i:Nat} {c:Val (std E N)} (hc:cs[i]?=some c) {n:Nat} (hn:n∈AH c.cs):n∈CE cs:=by
 induction cs generalizing i with
 | nil=>simp at hc
 | cons x cs ih =>
  cases i with
  | zero=>simp at hc;subst hc;simp [CE,hn]
  | succ i=>simp only [CE,List.mem_append];exact .inr (ih (by simpa using hc))
theorem Ci {o:Oper} {x:Sem Value} {z:Value} (he:execOp a.eval o=(do pure (.value (← x)))) (hx:x.run P w=.ok z w):(execOp a.eval o).run P w=.ok (.value z) w:=by
 rw [he];simp [hx]
theorem ug (hs : Sim P n0 nt β σ s a w) {ctx : List (Nat × Bool)} (hf : Facts a ctx) {o : Oper} {as : List Bool} {r : AV (std E N)}
    {fr:List (Nat×Option (HEnt (std E N)))} {m m':Nat} (h:RM.run s (ZV P ctx o.type o.op) m=.ok ((as,r,fr),m')) (has:∀ b∈as,b=true) :
    ∃ z,(execOp a.eval o).run P w=.ok (.value z) w∧RelAV P n0 β σ (s.apply { hs:=fr }) w r z∧(∀ n,Fresh a s n→n∉r.names)∧FrOK s fr:=by
  have frn:FrOK s ([]:List (Nat×Option (HEnt (std E N)))):=fun n v hm=>by simp at hm
  have sub0:∀ {c:AV (std E N)} {z:Value},RelAV P n0 β σ s w c z→RelAV P n0 β σ (s.apply { hs:=[] }) w c z:=fun {c z} hr =>
    ((frn.sub (wr:={ hs:=[] }) rfl rfl).ext P n0 (fun _=>False) β σ w).relAV (fun _ _=>id) hr
  have one0:∀ {c:AC0 E N} {z:Value},RelC P n0 β σ s w c z→RelAV P n0 β σ (s.apply { hs:=[] }) w (one c) z:=fun {c z} hr=>sub0 (Aj hr)
  have nm:∀ {c:AC0 E N},c.names=[]→∀ n,Fresh a s n→n∉(one c).names:=fun {c} hc n _=>by simp [AV.names,one,AH,hc]
  cases hop:o.op with
  | move x =>
    rw [hop] at h;obtain ⟨v,m1,h1,h2⟩:=zza h;cases zzc h2;obtain ⟨hr,hn⟩:=VQ hs hf h1;exact ⟨a.eval x,by simp [execOp,hop],sub0 hr,hn,frn⟩
  | assign x =>
    rw [hop] at h;obtain ⟨v,m1,h1,h2⟩:=zza h;cases zzc h2;obtain ⟨hr,hn⟩:=VQ hs hf h1;exact ⟨a.eval x,by simp [execOp,hop],sub0 hr,hn,frn⟩
  | pick c x y =>
    rw [hop] at h;cases c with
    | tmp n =>
      obtain ⟨c,z,h1,h2,h3,h4,rfl⟩:=vI hs hf h;have hc:a.eval (.tmp n)=.bool c:=h1;refine ⟨z,?_,sub0 h3,fun n _=>by rw [h4];simp,frn⟩;simp only [execOp,hop,Sem.run_bind,hc,asBool,Sem.run_pure,Result.andThen_ok,h2]
    | const c=>exact (zzb h).elim
    | func f=>exact (zzb h).elim
    | global g=>exact (zzb h).elim
  | build T parts =>
    rw [hop] at h;simp only [ZV] at h
    split at h
    · exact (zzb h).elim
    · rename_i z hz
      split at h
      · exact (zzb h).elim
      · rename_i hag;obtain ⟨i,v,hi,hiz,hzv,hr,hn,ho⟩:=HF (n0:=n0) (β:=β) (σ:=σ) (s:=s) (w:=w) hz;obtain ⟨za,zc⟩:=z;simp only at hag;subst hag;obtain ⟨vs,rfl,hrz⟩:=Oa hr;obtain ⟨cs,m1,h1,h2⟩:=zza h;cases zzc h2
        split at h1
        · rename_i fs hu;obtain ⟨_,m2,hg,h3⟩:=zza h1;have hinfo:∀ f∈fs.toList,∃ i,P.info? f.type=some i:=fun f hfm=>by
            have:=List.all_eq_true.1 (zzd hg) f hfm;exact Option.isSome_iff_exists.1 this
          have hmap:(fs.mapM fun f=>do pure (f.offset,← sizeOf f.type):Sem (Array (Nat×Nat))).run P w=.ok (fs.map fun f=>(f.offset,P.cellsOf f.type)) w:=by
            rw [Array.mapM_eq_mapM_toList];have:∀ l:List Field,(∀ f∈l,∃ i,P.info? f.type=some i)→(l.mapM fun f=>do pure (f.offset,← sizeOf f.type):Sem (List (Nat×Nat))).run P w=.ok (l.map fun f=>(f.offset,P.cellsOf f.type)) w:=by
              intro l
              induction l with
              | nil=>intro _;simp
              | cons f l ih =>
                intro hl;obtain ⟨i,hi⟩:=hl f zzl;rw [List.mapM_cons];simp only [Sem.run_bind,BS hi,Result.andThen_ok,Sem.run_pure,ih (fun g hg=>hl g (zzm _ hg)),List.map_cons]
            simp only [Sem.run_map,this fs.toList hinfo,Result.andThen_ok];congr 1;apply Array.ext';simp
          obtain ⟨cells',f1,f2,f3,f4⟩:=Tn hs hf (place:=fun i=>(fs.toList[i]?).map fun (f:Field)=>(f.offset,f.type))
            (place':=((fs.map fun f=>(f.offset,P.cellsOf f.type))[·]?)) (fun i off T hp=>by
              simp only [zzo,Prod.mk.injEq] at hp;obtain ⟨f,hf,rfl,rfl⟩:=hp;have:fs[i]?=some f:=by simpa using hf
              simp [this]) h3 hrz
          refine ⟨.agg cells',Ci (x:=Instr.build T (parts.map fun (i,x)=>(i,a.eval x))) (by simp [execOp,hop]) ?_,sub0 ⟨f2,_,rfl⟩,fun n hnf=>f4 n hnf (by rw [hn];simp),frn⟩;have hl:(parts.map fun (i,x)=>(i,a.eval x)).toList=parts.toList.map fun (i,x)=>(i,a.eval x):=by simp
          simp only [Instr.build,Sem.run_bind,hzv,Result.andThen_ok,run_underlying hu,hmap,hl,Value.cells,f1,Sem.run_pure]
        · rename_i n e hu;obtain ⟨_,m2,hg,h3⟩:=zza h1;obtain ⟨i,hi⟩:=D7 (Bv.1 (zzd hg));obtain ⟨cells', f1, f2, f3, f4⟩ := Tn hs hf (place := fun i => some (i * P.cellsOf e, e)) (place' := fun i => some (i * P.cellsOf e, P.cellsOf e)) (fun i off T hp => by
              simp only [Option.some.injEq,Prod.mk.injEq] at hp;obtain ⟨rfl,rfl⟩:=hp;rfl) h3 hrz
          refine ⟨.agg cells',Ci (x:=Instr.build T (parts.map fun (i,x)=>(i,a.eval x))) (by simp [execOp,hop]) ?_,sub0 ⟨f2,_,rfl⟩,fun n hnf=>f4 n hnf (by rw [hn];simp),frn⟩;have hl:(parts.map fun (i,x)=>(i,a.eval x)).toList=parts.toList.map fun (i,x)=>(i,a.eval x):=by simp
          simp only [Instr.build,Sem.run_bind,hzv,Result.andThen_ok,run_underlying hu,BS hi,hl,Value.cells,f1,Sem.run_pure]
        · exact (zzb h1).elim
  | load T p =>
    rw [hop] at h;obtain ⟨c,m1,h1,h2⟩:=zza h;obtain ⟨cs,m2,h3,h4⟩:=zza h2;obtain ⟨_,m3,h5,h6⟩:=zza h4;have hag:=zzd h5;cases zzc h6;obtain ⟨hc,_,_⟩:=C5 hs hf h1;obtain ⟨⟨blk,off,vs,hv,hl,hr,hcell⟩,hn⟩:=vD hs.M hc h3;obtain ⟨z,hz,hrel⟩:=Ro hr hag hl hcell;refine ⟨z,Ci (x:=Instr.loadAt T (a.eval p)) (by simp [execOp,hop]) (by simp [Instr.loadAt,hv,Instr.sureAddr,hz]),sub0 hrel,fun n hn'=>hn n hn',frn⟩
  | nilCheck x =>
    rw [hop] at h;obtain ⟨c,m1,h1,h2⟩:=zza h;obtain ⟨hc,_,hn⟩:=C5 hs hf h1;have fin:∀ c':AC0 E N,c=c'→(∃ blk o,a.eval x=.pointer (some ⟨blk,o,none⟩))→∃ z,(execOp a.eval o).run P w=.ok (.value z) w∧RelAV P n0 β σ (s.apply { hs:=[] }) w (one c') z∧(∀ n,Fresh a s n→n∉(one c').names):=by
      rintro c' rfl ⟨blk,o',hv⟩
      refine ⟨a.eval x,by simp [execOp,hop,hv],one0 hc,fun n hf hm=>hn n hf (by simpa [AV.names,one,AH] using hm)⟩
    cases c with
    | ptr b off=>cases zzc h2;obtain ⟨z,z1,z2,z3⟩:=fin _ rfl (by obtain ⟨blk,hv,_⟩:=hc;exact ⟨_,_,hv⟩);exact ⟨z,z1,z2,z3,frn⟩
    | eptr id i off=>cases zzc h2;obtain ⟨z,z1,z2,z3⟩:=fin _ rfl (by obtain ⟨_,blk,o',hv,_⟩:=hc;exact ⟨_,_,hv⟩);exact ⟨z,z1,z2,z3,frn⟩
    | iptr e nw l i off=>cases zzc h2;obtain ⟨z,z1,z2,z3⟩:=fin _ rfl (by obtain ⟨_,_,_,_,blk,_,_,_,_,_,_,hv⟩:=hc;exact ⟨_,_,hv⟩);exact ⟨z,z1,z2,z3,frn⟩
    | aptr b off n sz i inner=>cases zzc h2;obtain ⟨z,z1,z2,z3⟩:=fin _ rfl (by obtain ⟨_,_,blk,hv,_⟩:=hc;exact ⟨_,_,hv⟩);exact ⟨z,z1,z2,z3,frn⟩
    | _=>exact (zzb h2).elim
  | binOp op T x y yT =>
    rw [hop] at h;obtain ⟨p,m1,h1,h2⟩:=zza h;obtain ⟨q,m2,h3,h4⟩:=zza h2;obtain ⟨hp,_⟩:=MK hs hf h1;obtain ⟨hq,_⟩:=MK hs hf h3;obtain ⟨z,hz,hr,hn,rfl⟩:=xU (yT:=yT) (x:=x) hp hq (fun k n hy=>by rw [hy];rfl) h4 has;exact ⟨z,Ci (by simp [execOp,hop]) hz,sub0 hr,fun n _=>by rw [hn];simp,frn⟩
  | unOp op T x =>
    rw [hop] at h;obtain ⟨c,m1,h1,h2⟩:=zza h;obtain ⟨hc,ho,hnn⟩:=C5 hs hf h1
    split at h2
    · rename_i b;cases zzc h2;have hv:a.eval x=.bool b:=hc;exact ⟨.bool !b,Ci (x:=Op.unary .not (a.eval x)) (by simp [execOp,hop]) (by rw [hv];rfl),one0 (c:=.bool _) rfl,nm rfl,frn⟩
    · rename_i k i;cases zzc h2;have hv:a.eval x=.int k i:=hc;exact ⟨.int k (k.wrap (0 - i)),Ci (x:=Op.unary .neg (a.eval x)) (by simp [execOp,hop]) (by rw [hv];rfl),one0 (c:=.int _ _) rfl,nm rfl,frn⟩
    · rename_i k i;cases zzc h2;have hv:a.eval x=.int k i:=hc;refine ⟨.int k (eD 2 k (match k.signed with | true => -1 | false=>k.max) i),Ci (x:=Op.unary .xor (a.eval x)) (by simp [execOp,hop]) (by rw [hv];cases k<;>rfl),one0 (c:=.int _ _) rfl,nm rfl,frn⟩
    · exact (zzb h2).elim
  | convert src dst x =>
    rw [hop] at h;obtain ⟨c,m1,h1,h2⟩:=zza h;obtain ⟨hc,ho,hnn⟩:=C5 hs hf h1;unfold kC at h2
    split at h2
    · exact (zzb h2).elim
    · rename_i d hu
      split at h2
      · rename_i k k' i hk;cases zzc h2;have hv:a.eval x=.int k' i:=hc;refine ⟨.int k (k.wrap i),Ci (x:=Go.convert src dst (a.eval x)) (by simp [execOp,hop]) ?_,one0 (c:=.int _ _) rfl,nm rfl,frn⟩;simp only [Go.convert,Sem.run_bind,run_underlying hu,run_underlying (dM hk),Result.andThen_ok,hv];cases d<;>rfl
      · rename_i x' hk;cases zzc h2;have hv:a.eval x=.string x':=hc;refine ⟨.string x',Ci (x:=Go.convert src dst (a.eval x)) (by simp [execOp,hop]) ?_,one0 (c:=.str _) rfl,nm rfl,frn⟩;simp only [Go.convert,Sem.run_bind,run_underlying hu,run_underlying (XO hk),Result.andThen_ok,hv];cases d<;>rfl
      · rename_i k' i hk;cases zzc h2;have hv:a.eval x=.int k' i:=hc;refine ⟨.string (Utf8.encode i),Ci (x:=Go.convert src dst (a.eval x)) (by simp [execOp,hop]) ?_,one0 (c:=.str _) rfl,nm rfl,frn⟩;simp only [Go.convert,Sem.run_bind,run_underlying hu,run_underlying (XO hk),Result.andThen_ok,hv];cases d<;>rfl
      · exact (zzb h2).elim
  | extract x i =>
    rw [hop] at h;obtain ⟨v,m1,h1,h2⟩:=zza h;obtain ⟨hr,hn⟩:=VQ hs hf h1;cases v with
    | val v=>exact (zzb h2).elim
    | tup vs =>
      simp only at h2
      split at h2
      · rename_i v hv;cases zzc h2;obtain ⟨us,hu,hrs⟩:=hr;obtain ⟨z,hz,hrz⟩:=hrs.get hv;refine ⟨z,Ci (x:=Instr.extract (a.eval x) i) (by simp [execOp,hop]) ?_,sub0 hrz,fun n hf hm=>hn n hf (lZ hv hm),frn⟩;rw [hu];have:us[i]?=some z:=by simpa using hz
        simp [Instr.extract,this]
      · exact (zzb h2).elim
  | field T x f =>
    rw [hop] at h;obtain ⟨v,m1,h1,h2⟩:=zza h;obtain ⟨hr,hn⟩:=MK hs hf h1;obtain ⟨va,vc⟩:=v;simp only at h2
    split at h2
    · exact (zzb h2).elim
    · rename_i fd hfd
      split at h2
      · rename_i cs hsl;obtain ⟨_,m2,h3,h4⟩:=zza h2;have hag:=zzd h3;cases zzc h4;obtain ⟨us,hu,hrs⟩:=Oa hr;obtain ⟨z,hz,hrel⟩:=vb hfd hrs hsl hag;refine ⟨z,Ci (x:=Instr.field T (a.eval x) f) (by simp [execOp,hop]) (by rw [hu];exact hz),sub0 hrel,fun n hf hm=>hn n hf (Eu hsl hm),frn⟩
      · exact (zzb h2).elim
  | fieldAddr T x f =>
    rw [hop] at h;obtain ⟨c,m1,h1,h2⟩:=zza h;obtain ⟨hc,_,hn⟩:=C5 hs hf h1
    split at h2
    · exact (zzb h2).elim
    · rename_i fd hfd;obtain ⟨_,m2,h3,h4⟩:=zza h2;have hg:=zzd h3
      split at h4
      · rename_i p hp;cases zzc h4;obtain ⟨blk,off,hv,hr,hnm⟩:=fY hp hc;refine ⟨_,Ci (x:=Instr.fieldAt T (a.eval x) f) (by simp [execOp,hop]) (by rw [hv];exact qF hfd (by simpa [Br] using hg)),one0 hr,fun n hf hm=>hn n hf (by simpa [AV.names,one,AH,hnm] using hm),frn⟩
      · exact (zzb h4).elim
  | indexAddr T x ix =>
    rw [hop] at h;obtain ⟨c,m1,h1,h2⟩:=zza h;obtain ⟨i,m2,h3,h4⟩:=zza h2;obtain ⟨hc,_,hn⟩:=C5 hs hf h1;obtain ⟨k,hk⟩:=Wv hs hf h3;obtain ⟨z,hz,hr,hnm,rfl⟩:=js (k:=k) hs hc (fun k' n hx=>by rw [hx] at hk;cases hk;rfl) h4 has;exact ⟨z,Ci (x:=Instr.indexAt T (a.eval x) (a.eval ix)) (by simp [execOp,hop]) (by rw [hk];exact hz),sub0 hr,fun n hf hm=>hn n hf (hnm n hm),frn⟩
  | index T x ix =>
    rw [hop] at h;obtain ⟨v,m1,h1,h2⟩:=zza h;obtain ⟨i,m2,h3,h4⟩:=zza h2;obtain ⟨hc,hn⟩:=MK hs hf h1;obtain ⟨k,hk⟩:=Wv hs hf h3;obtain ⟨z,hz,hr,hnm,rfl⟩:=tF (k:=k) hc (fun k' n hx=>by rw [hx] at hk;cases hk;rfl) h4 has;exact ⟨z,Ci (x:=Instr.index T (a.eval x) (a.eval ix)) (by simp [execOp,hop]) (by rw [hk];exact hz),sub0 hr,fun n hf hm=>hn n hf (hnm n hm),frn⟩
  | slice T x lo hi mx =>
    rw [hop] at h;obtain ⟨c,m1,h1,h2⟩:=zza h;obtain ⟨hc,_,hn⟩:=C5 hs hf h1;obtain ⟨z,hz,hr,hnm,hfr⟩:=sZ hs hf hc h2 has;exact ⟨z,Ci (by simp [execOp,hop]) hz,hr,fun n _=>by rw [hnm];simp,hfr⟩
  | makeFunc fn first caps =>
    rw [hop] at h;cases fn with
    | func f =>
      simp only [ZV] at h
      split at h
      · rename_i hfirst;obtain ⟨l,m1,h1,h2⟩:=zza h;cases zzc h2;obtain ⟨e1,e2,e3⟩:=kY hs hf h1;have hf0:first=#[]:=Array.toList_eq_nil_iff.1 hfirst
        refine ⟨.func (.func f) #[] (caps.map a.eval),Ci (x:=Instr.makeFunc (.func f) (first.map a.eval) (caps.map a.eval)) (by simp [execOp,hop]) (by subst hf0;simp [Instr.makeFunc]),one0 ⟨caps.toList.map a.eval,?_,e1,e2⟩,fun n hf hm=>e3 n hf (by simpa [AV.names,one,AH,AC.names] using hm),frn⟩;congr 1;apply Array.ext';simp
      · exact (zzb h).elim
    | _=>exact (zzb h).elim
  | call c =>
    rw [hop] at h;obtain ⟨callee,args,argTypes⟩:=c;cases callee with
    | value f=>exact (zzb h).elim
    | invoke x y=>exact (zzb h).elim
    | builtin b =>
      have hex : ∀ (x : Sem Value), builtin b argTypes o.type (args.map fun | .const _ => true | _ => false) (args.map a.eval) = (do pure (.value (← x))) →
          execOp a.eval o=(do pure (.value (← x))):=by
        intro x hx;simp only [execOp,hop,resolve];simp only [pure_bind,invoke];exact hx
      cases b with
      | len =>
        simp only [ZV] at h
        split at h
        · rename_i x T ha hT;have ha':args=#[x]:=by apply Array.ext';simpa using ha
          have hT':argTypes=#[T]:=by apply Array.ext';simpa using hT
          subst ha';subst hT'
          split at h
          · rename_i n e hu;cases zzc h;refine ⟨goInt n,Ci (hex (Builtin.len_ #[T] o.type #[a.eval x]) (by simp [builtin])) ?_,one0 (c:=.int _ _) rfl,nm rfl,frn⟩;simp [Builtin.len_,run_underlying hu]
          · rename_i hu;obtain ⟨c,m1,h1,h2⟩:=zza h;obtain ⟨hc,_,_⟩:=C5 hs hf h1;cases c with
            | str y =>
              cases zzc h2;have hv:a.eval x=.string y:=hc;refine ⟨goInt (ByteArray.size y),Ci (hex (Builtin.len_ #[T] o.type #[a.eval x]) (by simp [builtin])) ?_,one0 (c:=.int _ _) rfl,nm rfl,frn⟩;simp [Builtin.len_,run_underlying hu,hv]
            | _=>exact (zzb h2).elim
          · rename_i e hu;obtain ⟨c,m1,h1,h2⟩:=zza h;obtain ⟨⟨e',l,nb⟩,m2,h3,h4⟩:=zza h2;cases zzc h4;obtain ⟨hc,_,_⟩:=C5 hs hf h1;have key:∃ av cap,a.eval x=.slice av (List.length l) cap:=by
              cases c with
              | nil e0 =>
                have hrr:=zzc h3;simp only [Prod.mk.injEq] at hrr;obtain ⟨_,rfl,_⟩:=hrr;obtain ⟨t,ts,ht,hts,av,hv⟩:=hc;exact ⟨av,0,hv⟩
              | imm e0 nw0 l0 =>
                have hrr:=zzc h3;simp only [Prod.mk.injEq] at hrr;obtain ⟨_,rfl,_⟩:=hrr;obtain ⟨t,ht,hrep⟩:=hc;generalize a.eval x=vv at hrep;cases hrep with
                | @sl _ e2 ts av len cap _ vv ht' hts hl hr hc hm hv=>exact ⟨av,cap,by rw [hl]⟩
              | own e0 id =>
                obtain ⟨m5,h3⟩:=zzf h3;cases hh:s.getH id with
                | none=>rw [hh] at h3;exact (zzb h3).elim
                | some en =>
                  rw [hh] at h3;have hrr:=zzc h3;simp only [Prod.mk.injEq] at hrr;obtain ⟨_,rfl,_⟩:=hrr;obtain ⟨_,hk⟩:=hc;obtain ⟨_,ho⟩:=hk en hh
                  rcases ho with ⟨blk,cap,_,hv⟩ | ⟨_,hz,av,hv⟩
                  · exact ⟨_,cap,hv⟩
                  · exact ⟨av,0,by rw [hz];exact hv⟩
              | _=>exact (zzb h3).elim
            obtain ⟨av,cap,hv⟩:=key;refine ⟨goInt (List.length l),Ci (hex (Builtin.len_ #[T] o.type #[a.eval x]) (by simp [builtin])) ?_,one0 (c:=.int _ _) rfl,nm rfl,frn⟩;simp [Builtin.len_,run_underlying hu,hv]
          · exact (zzb h).elim
        · exact (zzb h).elim
      | min =>
        obtain ⟨cs,m1,h1,h2⟩:=zza h;have hcs:=jN hs hf h1;have hl:(args.map a.eval).toList=args.toList.map a.eval:=by simp
        match cs,h2,hcs with
        | [],h2,_=>exact (zzb h2).elim
        | [_],h2,_=>exact (zzb h2).elim
        | c::c2::r,h2,hcs =>
          simp only at h2
          split at h2
          · rename_i mm hmm;cases zzc h2;cases hxs:args.toList.map a.eval with
            | nil=>rw [hxs] at hcs;exact hcs.elim
            | cons v vs =>
              rw [hxs] at hcs;obtain ⟨z,hz,hr,hn1,hn2⟩:=jD (P:=P) (n0:=n0) (β:=β) (σ:=σ) (s:=s) (w:=w) (f:=Builtin.min2) (fun k x y=>by simp [Builtin.min2,iLt,Bool.cond_decide]) hmm hcs.1 hcs.2;refine ⟨z,Ci (hex (Builtin.min_ argTypes o.type (args.map a.eval)) rfl) ?_,one0 hr,fun n hnf hm=>?_,frn⟩
              · simp only [Builtin.min_,hl,hxs];exact hz
              · rw [show (one mm).names=AH [mm] from rfl] at hm;simp [AH,hn1 (by simp)] at hm
          · exact (zzb h2).elim
      | max =>
        obtain ⟨cs,m1,h1,h2⟩:=zza h;have hcs:=jN hs hf h1;have hl:(args.map a.eval).toList=args.toList.map a.eval:=by simp
        match cs,h2,hcs with
        | [],h2,_=>exact (zzb h2).elim
        | [_],h2,_=>exact (zzb h2).elim
        | c::c2::r,h2,hcs =>
          simp only at h2
          split at h2
          · rename_i mm hmm;cases zzc h2;cases hxs:args.toList.map a.eval with
            | nil=>rw [hxs] at hcs;exact hcs.elim
            | cons v vs =>
              rw [hxs] at hcs;obtain ⟨z,hz,hr,hn1,hn2⟩:=jD (P:=P) (n0:=n0) (β:=β) (σ:=σ) (s:=s) (w:=w) (f:=Builtin.max2) (lt:=fun a b=>iLt b a) (fun k x y=>by simp [Builtin.max2,iLt,Bool.cond_decide]) hmm hcs.1 hcs.2;refine ⟨z,Ci (hex (Builtin.max_ argTypes o.type (args.map a.eval)) rfl) ?_,one0 hr,fun n hnf hm=>?_,frn⟩
              · simp only [Builtin.max_,hl,hxs];exact hz
              · rw [show (one mm).names=AH [mm] from rfl] at hm;simp [AH,hn1 (by simp)] at hm
          · exact (zzb h2).elim
      | _=>exact (zzb h).elim
  | _=>rw [hop] at h;exact (zzb h).elim
end
def upd {α:Type} (f:Nat→Option α) (k:Nat) (v:Option α):Nat→Option α:=fun n=>if n=k then v else f n
section
variable {E:Env} {N:Nat} {P:Program} {n0:Nz} {nt:Nat} {β:Nat→Option Nat} {σ:Nat→Option (Nat×Nat)} {s s':St0 E N} {a:Act} {w w':World}
theorem A8 {α:Type} (f:Nat→Option α) (k:Nat) (v:Option α):upd f k v k=v:=by simp [upd]
theorem BB {α:Type} (f:Nat→Option α) {k n:Nat} (v:Option α) (h:n≠k):upd f k v n=f n:=by simp [upd,h]
structure Grow (w w':World):Prop where
 os:w'.os=w.os
 tape:w'.tape=w.tape
 output:w'.output=w.output
 size:w.heap.size≤w'.heap.size
 old:∀ b,b<w.heap.size→w'.heap[b]?=w.heap[b]?
theorem Grow.refl (w:World):Grow w w:=⟨rfl,rfl,rfl,Nat.le_refl _,fun _ _=>rfl⟩
theorem Grow.alloc (w:World) (o:Obj):Grow w (w.alloc o):=⟨rfl,rfl,rfl,by simp,fun b hb=>by
 show (w.heap.push o)[b]?=_;rw [Array.getElem?_push,if_neg (by omega)]⟩
theorem Grow.drew (w:World):Grow w w.drew:=⟨rfl,rfl,rfl,Nat.le_refl _,fun _ _=>rfl⟩
theorem Grow.trans {w1 w2 w3:World} (h:Grow w1 w2) (k:Grow w2 w3):Grow w1 w3 :=
 ⟨k.os.trans h.os,k.tape.trans h.tape,k.output.trans h.output,Nat.le_trans h.size k.size,fun b hb=>(k.old b (Nat.lt_of_lt_of_le hb h.size)).trans (h.old b hb)⟩
theorem Grow.ext (g:Grow w w') (P:Program) (n0:Nz) (new:Nat→Prop) (β:Nat→Option Nat) (σ:Nat→Option (Nat×Nat)) (s:St0 E N):Ext P n0 new β σ s w β σ s w' :=
 ⟨g.os,g.tape,g.output,g.size,fun b hb _=>.inl (g.old b hb),fun _ h=>.inl h,fun b e h _=>⟨⟨e,h⟩,rfl⟩,fun id h hh _=>⟨h,hh,rfl,rfl,fun _=>rfl⟩⟩
theorem Mt (w:World) (o:Obj):(w.alloc o).heap[w.heap.size]?=some o:=by
 show (w.heap.push o)[w.heap.size]?=some o;simp
theorem qo (m : Mem P n0 β σ s w) {id : Nat} (hf : Fresh a s id) {cs : List (AC0 E N)} {vs : Array Value} (hr : RelCs P n0 β σ s w cs vs.toList)
    (hcn:id∉AH cs) (T:TypeId) (hbh:BH w.heap.size vs T cs) {wr:Wr (std E N)} (hb:wr.bs=[(id,some { cs,dirty:=true })]) (hh:wr.hs=[]) :
    Mem P n0 (upd β id (some w.heap.size)) σ (s.apply wr) (w.alloc (.cells vs T)) ∧
      Ext P n0 (·=id) β σ s w (upd β id (some w.heap.size)) σ (s.apply wr) (w.alloc (.cells vs T)):=by
  have gB:=fun n=>State.getB_apply1 s id (some { cs,dirty:=true }) wr hb n
  have gH:=fun n=>State.getH_apply0 s wr hh n
  have old:∀ n e,s.getB n=some e→n≠id:=fun n e he h=>((hf.b n e he).1 h.symm)
  have hltB:∀ n e blk,s.getB n=some e→β n=some blk→blk<w.heap.size:=fun n e blk he hb=>by
    obtain ⟨blk',cells,el,hb',hheap,_⟩:=m.B n e he;rw [hb'] at hb;cases hb;exact Ba hheap
  have hltH:∀ n e blk cap,s.getH n=some e→σ n=some (blk,cap)→blk<w.heap.size:=fun n e blk cap he hb=>by
    rcases m.H n e he with ⟨t,ts,_,_,_,hm⟩ | hM
    case inr=>obtain ⟨⟨o,ho⟩,_⟩:=hM.blk hb;exact Ba ho
    rcases hm with ⟨h1,_⟩ | ⟨blk',cap',cells,el,h1,hheap,_⟩
    · rw [h1] at hb;cases hb
    · rw [h1] at hb;cases hb;exact Ba hheap
  have x:Ext P n0 (·=id) β σ s w (upd β id (some w.heap.size)) σ (s.apply wr) (w.alloc (.cells vs T)):=by
    have g:=Grow.alloc w (.cells vs T);refine ⟨g.os,g.tape,g.output,g.size,fun b hb _=>.inl (g.old b hb),fun b hb=>?_,fun b e he hn=>?_,fun n e he hn=>?_⟩
    · rcases hb with ⟨n,e,he,hb⟩ | ⟨n,e,cap,he,hfz,hb⟩
      · rw [gB] at he
        by_cases hid:n=id
        · rw [hid,A8] at hb;cases hb;exact .inr (Nat.le_refl _)
        · rw [if_neg hid] at he;rw [BB _ _ hid] at hb;exact .inl (.inl ⟨n,e,he,hb⟩)
      · rw [gH] at he;exact .inl (.inr ⟨n,e,cap,he,hfz,hb⟩)
    · rw [gB,if_neg hn] at he;exact ⟨⟨e,he⟩,BB _ _ hn⟩
    · rw [gH] at he;exact ⟨e,he,rfl,rfl,fun _=>rfl⟩
  have hnew:∀ n,n∈AH cs→¬ n=id:=fun n hn h=>hcn (h▸hn)
  refine ⟨⟨fun n e he=>?_,fun n e he=>?_,fun b b' e e' blk h h' hb hb'=>?_,fun i i' e e' blk cap cap' h h' hi hi'=>?_,fun b e i h blk cap hb hi h1 h2=>?_⟩,x⟩
  · rw [gB] at he
    by_cases hid:n=id
    · rw [if_pos hid] at he;cases he;exact ⟨w.heap.size,vs,T,by rw [hid,A8],Mt w _,x.relCs hnew hr,hbh⟩
    · rw [if_neg hid] at he;obtain ⟨blk,cells,el,hb,hheap,hrel,hbh⟩:=m.B n e he;exact ⟨blk,cells,el,by rw [BB _ _ hid];exact hb,((Grow.alloc w (.cells vs T)).old blk (Ba hheap)).trans hheap,
        x.relCs (fun k hk h=>(hf.b n e he).2 (h▸hk)) hrel,hbh⟩
  · rw [gH] at he
    rcases m.H n e he with ⟨t,ts,ht,hts,hrl,hm⟩ | hM
    case inr=>exact .inr (hM.view rfl rfl rfl (fun blk cap hb=>(Grow.alloc w (.cells vs T)).old blk (hltH n e blk cap he hb)) (fun _ _ _ ho=>ho))
    refine .inl ⟨t,ts,ht,hts,hrl,?_⟩
    rcases hm with hm | ⟨blk,cap,cells,el,ha,hheap,hel,hc,hd,hnw,v,hv,hrep⟩
    · exact .inl hm
    · exact .inr ⟨blk,cap,cells,el,ha,((Grow.alloc w (.cells vs T)).old blk (Ba hheap)).trans hheap,hel,hc,hd,hnw,v,hv,fun i j t' hi hj=>x.rep (hrep i j t' hi hj)⟩
  · rw [gB] at h h'
    by_cases h1:b=id<;>by_cases h2:b'=id
    · rw [h1,h2]
    · rw [h1,A8] at hb;cases hb;rw [if_neg h2] at h';rw [BB _ _ h2] at hb';have:=hltB b' e' _ h' hb';omega
    · rw [h2,A8] at hb';cases hb';rw [if_neg h1] at h;rw [BB _ _ h1] at hb;have:=hltB b e _ h hb;omega
    · rw [if_neg h1] at h;rw [if_neg h2] at h';rw [BB _ _ h1] at hb;rw [BB _ _ h2] at hb';exact m.uB b b' e e' blk h h' hb hb'
  · rw [gH] at h h';exact m.uH i i' e e' blk cap cap' h h' hi hi'
  · rw [gB] at hb;rw [gH] at hi
    by_cases h3:b=id
    · rw [h3,A8] at h1;cases h1;have:=hltH i h _ _ hi h2;omega
    · rw [if_neg h3] at hb;rw [BB _ _ h3] at h1;exact m.uX b e i h blk cap hb hi h1 h2
theorem Mem.ltB (m:Mem P n0 β σ s w) {n:Nat} {e:BEnt (std E N)} {blk:Nat} (he:s.getB n=some e) (hb:β n=some blk):blk<w.heap.size:=by
 obtain ⟨blk',cells,el,hb',hheap,_⟩:=m.B n e he;rw [hb'] at hb;cases hb;exact Ba hheap
theorem Mem.ltH (m:Mem P n0 β σ s w) {n:Nat} {e:HEnt (std E N)} {blk cap:Nat} (he:s.getH n=some e) (hb:σ n=some (blk,cap)):blk<w.heap.size:=by
 rcases m.H n e he with ⟨t,ts,_,_,_,hm⟩ | hM
 case inr=>obtain ⟨⟨o,ho⟩,_⟩:=hM.blk hb;exact Ba ho
 rcases hm with ⟨h1,_⟩ | ⟨blk',cap',cells,el,h1,hheap,_⟩
 ·rw [h1] at hb;cases hb
 ·rw [h1] at hb;cases hb;exact Ba hheap
theorem dv {σ' : Nat → Option (Nat × Nat)} {new : Nat → Prop} {id : Nat} (m : Mem P n0 β σ s w) (x : Ext P n0 new β σ s w β σ' s' w')
    (hB:∀ n e',s'.getB n=some e'→∃ e,s.getB n=some e∧tJ P n0 β σ' s' w' n e')
    (hH:∀ n h',n≠id→s'.getH n=some h'→∃ h,s.getH n=some h∧h'.e=h.e∧h'.l=h.l∧h'.nw=h.nw∧(h'.frozen=false→h.frozen=false)∧σ' n=σ n)
    (hHw:∀ n h blk cap,n≠id→s'.getH n=some h→σ n=some (blk,cap)→w'.heap[blk]?=w.heap[blk]?)
    (hid:∀ h,s'.getH id=some h→RelH P n0 β σ' s' w' id h)
    (hun:∀ blk cap,σ' id=some (blk,cap)→(∀ n e,s'.getB n=some e→β n≠some blk)∧(∀ n h cap',n≠id→s'.getH n=some h→σ n≠some (blk,cap'))) :
    Mem P n0 β σ' s' w' where
  B n e he:=by
    exact (hB n e he).choose_spec.2
  H n h hh:=by
    by_cases hni:n=id
    · subst hni;exact hid h hh
    · obtain ⟨h0,hh0,h1,h2,h3,h4,h5⟩:=hH n h hni hh
      rcases m.H n h0 hh0 with ⟨t,ts,ht,hts,hrl,hm⟩ | hM
      case inr=>exact .inr (hM.view h1 h2 h5 (fun blk cap hb=>hHw n h blk cap hni hh hb) (fun _ _ _ ho=>by rw [h3];exact ho))
      refine .inl ⟨t,ts,by rw [h1];exact ht,by rw [h1];exact hts,by rw [h2];exact hrl,?_⟩
      rcases hm with ⟨ha,hb⟩ | ⟨blk,cap,cells,el,ha,hheap,hel,hc,hd,hnw,v,hv,hrep⟩
      · exact .inl ⟨by rw [h5];exact ha,by rw [h2];exact hb⟩
      · refine .inr ⟨blk,cap,cells,el,by rw [h5];exact ha,(hHw n h blk cap hni hh ha).trans hheap,by rw [h1];exact hel,hc,by rw [h2];exact hd,by rw [h3];exact hnw,v,by rw [h2];exact hv,fun i j t' hi hj=>?_⟩;rw [h2] at hi ⊢;rw [h3];exact x.rep (hrep i j t' hi hj)
  uB b b' e e' blk h h' hb hb':=by
    obtain ⟨e0,h0,_⟩:=hB b e h;obtain ⟨e1,h1,_⟩:=hB b' e' h';exact m.uB b b' e0 e1 blk h0 h1 hb hb'
  uH i i' e e' blk cap cap' h h' hi hi':=by
    by_cases h1:i=id<;>by_cases h2:i'=id
    · rw [h1,h2]
    · rw [h1] at hi;obtain ⟨h0,hh0,_,_,_,_,h5⟩:=hH i' e' h2 h';rw [h5] at hi';exact ((hun blk cap hi).2 i' e' cap' h2 h' hi').elim
    · rw [h2] at hi';obtain ⟨h0,hh0,_,_,_,_,h5⟩:=hH i e h1 h;rw [h5] at hi;exact ((hun blk cap' hi').2 i e cap h1 h hi).elim
    · obtain ⟨h0,hh0,_,_,_,_,h5⟩:=hH i e h1 h;obtain ⟨h0',hh0',_,_,_,_,h5'⟩:=hH i' e' h2 h';rw [h5] at hi;rw [h5'] at hi';exact m.uH i i' h0 h0' blk cap cap' hh0 hh0' hi hi'
  uX b e i h blk cap hb hi h1 h2:=by
    obtain ⟨e0,h0,_⟩:=hB b e hb
    by_cases h3:i=id
    · rw [h3] at h2;exact (hun blk cap h2).1 b e hb h1
    · obtain ⟨h4,hh4,_,_,_,_,h5⟩:=hH i h h3 hi;rw [h5] at h2;exact m.uX b e0 i h4 blk cap h0 hh4 h1 h2
theorem W1 {σ' : Nat → Option (Nat × Nat)} {new : Nat → Prop} {id : Nat} (m : Mem P n0 β σ s w) (x : Ext P n0 new β σ s w β σ' s' w')
    (hB:∀ n e',s'.getB n=some e'→∃ e,s.getB n=some e∧e'.cs=e.cs∧∀ k∈AH e.cs,¬ new k)
    (hBw:∀ n e blk,s'.getB n=some e→β n=some blk→w'.heap[blk]?=w.heap[blk]?)
    (hH:∀ n h',n≠id→s'.getH n=some h'→∃ h,s.getH n=some h∧h'.e=h.e∧h'.l=h.l∧h'.nw=h.nw∧(h'.frozen=false→h.frozen=false)∧σ' n=σ n)
    (hHw:∀ n h blk cap,n≠id→s'.getH n=some h→σ n=some (blk,cap)→w'.heap[blk]?=w.heap[blk]?)
    (hid:∀ h,s'.getH id=some h→RelH P n0 β σ' s' w' id h)
    (hun:∀ blk cap,σ' id=some (blk,cap)→(∀ n e,s'.getB n=some e→β n≠some blk)∧(∀ n h cap',n≠id→s'.getH n=some h→σ n≠some (blk,cap'))) :
    Mem P n0 β σ' s' w':=by
  refine dv (id:=id) m x (fun n e he=>?_) hH hHw hid hun;obtain ⟨e0,h0,hc,hn⟩:=hB n e he;obtain ⟨blk,cells,el,hb,hheap,hrel,hbh⟩:=m.B n e0 h0;exact ⟨e0,h0,blk,cells,el,hb,(hBw n e blk he hb).trans hheap,x.relCs (by rw [hc];exact hn) (by rw [hc];exact hrel),by rw [hc];exact hbh⟩
theorem Mem.grow (m:Mem P n0 β σ s w) (g:Grow w w'):Mem P n0 β σ s w' where
 B n e he:=by
  obtain ⟨blk,cells,el,hb,hheap,hrel,hbh⟩:=m.B n e he;exact ⟨blk,cells,el,hb,(g.old blk (Ba hheap)).trans hheap,(g.ext P n0 (fun _=>False) β σ s).relCs (fun _ _=>id) hrel,hbh⟩
 H n h hh:=by
  rcases m.H n h hh with ⟨t,ts,ht,hts,hrl,hm⟩ | hM
  case inr=>exact .inr (hM.view rfl rfl rfl (fun blk cap hb=>g.old blk (m.ltH hh hb)) (fun _ _ _ ho=>ho))
  refine .inl ⟨t,ts,ht,hts,hrl,?_⟩
  rcases hm with hm | ⟨blk,cap,cells,el,ha,hheap,hel,hc,hd,hnw,v,hv,hrep⟩
  ·exact .inl hm
  ·exact .inr ⟨blk,cap,cells,el,ha,(g.old blk (Ba hheap)).trans hheap,hel,hc,hd,hnw,v,hv,fun i j t' hi hj=>(g.ext P n0 (fun _=>False) β σ s).rep (hrep i j t' hi hj)⟩
 uB:=m.uB
 uH:=m.uH
 uX:=m.uX
structure Tidy (a:Act) (new:Nat→Prop) (s s':St0 E N):Prop where
 fresh:∀ n,Fresh a s n→¬ new n→Fresh a s' n
 cleanB:∀ n e,s'.getB n=some e→e.dirty=false→s.getB n=some e
 cleanH:∀ n e,s'.getH n=some e→e.dirty=false→s.getH n=some e
def PreOK (s:St0 E N) (fr:List (Nat×Option (HEnt (std E N)))):Prop :=
 ∀ n v,(n,v)∈fr→v=none∨∃ h,s.getH n=some h∧v=some { h with frozen:=true,dirty:=true }
theorem FrOK.pre {fr:List (Nat×Option (HEnt (std E N)))} (h:FrOK s fr):PreOK s fr:=fun n v hm=>.inr (h n v hm)
theorem sU {fr : List (Nat × Option (HEnt (std E N)))} : ∀ {l : List (Nat × HEnt (std E N))}, (∀ n v, (n, v) ∈ fr → v = none ∨ ∃ h, AM s.hp n = some h ∧ v = some { h with frozen := true, dirty := true }) →
    (∀ k h',AM l k=some h'→∃ h,AM s.hp k=some h∧(h'=h∨h'={ h with frozen:=true,dirty:=true })) →
    ∀ k h',AM (BK l fr) k=some h'→∃ h,AM s.hp k=some h∧(h'=h∨h'={ h with frozen:=true,dirty:=true }):=by
  induction fr with
  | nil=>intro l _ hl k h' hk;exact hl k h' hk
  | cons x fr ih =>
    intro l hfr hl k h' hk;obtain ⟨n,v⟩:=x;simp only [BK] at hk;refine ih (fun n v hm=>hfr n v (zzm _ hm)) (fun k h' hk=>?_) k h' hk;rw [BQ] at hk
    split at hk
    · rename_i hkn
      rcases hfr n v zzl with h2 | ⟨h,h1,h2⟩
      · rw [h2] at hk;cases hk
      · rw [h2] at hk;cases hk;exact ⟨h,by rw [hkn];exact h1,.inr rfl⟩
    · exact hl k h' hk
theorem PreOK.get {fr : List (Nat × Option (HEnt (std E N)))} (h : PreOK s fr) {wr : Wr (std E N)} (hw : wr.hs = fr) (k : Nat) (h' : HEnt (std E N)) (hk : (s.apply wr).getH k = some h') :
    ∃ h,s.getH k=some h∧(h'=h∨h'={ h with frozen:=true,dirty:=true }):=by
  unfold State.apply State.getH at hk;rw [hw] at hk;exact sU h (fun k h' hk=>⟨h',hk,.inl rfl⟩) k h' hk
theorem PreOK.sub {fr:List (Nat×Option (HEnt (std E N)))} (h:PreOK s fr) {wr:Wr (std E N)} (hw:wr.hs=fr) (hb:wr.bs=[]):Sub s (s.apply wr) where
 b n e he:=⟨e,by rw [State.getB_apply0 s wr hb] at he;exact he,rfl⟩
 h n h' hk:=by
  obtain ⟨h0,hh,h1⟩:=h.get hw n h' hk;refine ⟨h0,hh,?_⟩
  rcases h1 with rfl | rfl
  ·exact ⟨rfl,rfl,rfl,id⟩
  ·exact ⟨rfl,rfl,rfl,fun h=>by cases h⟩
theorem je (m : Mem P n0 β σ s w) {id : Nat} (hf : Fresh a s id) {fr : List (Nat × Option (HEnt (std E N)))} (hfr : PreOK s fr) {h : HEnt (std E N)} {wr : Wr (std E N)}
    (ht0:wr.ts=[]) (hb:wr.bs=[]) (hh:wr.hs=fr++[(id,some h)]) (hd:h.dirty=true) (hz:h.frozen=false) {w1:World} (g:Grow w w1) {cells:Array Value} {cap:Nat} {t:TypeId} {ts:List TypeId}
    (ht:AL P t=.sl h.e) (hts:AW P h.e=some ts) (hrl:∀ r∈h.l,r.length=ts.length) (hsz:cells.size=cap * ts.length) (hcap:h.l.length≤cap) (hn0:n0.n≤w.heap.size)
    (v:Nat→Nat→Value) (hv:∀ i j,i<h.l.length→j<ts.length→cells[i * ts.length+j]?=some (v i j))
    (hrep:∀ i j t',i<h.l.length→ts[j]?=some t'→Rep P w (StB n0 β σ (s.apply { hs:=fr }) h.nw) t' (v i j) (AF h.l i j)) :
    Mem P n0 β (upd σ id (some (w1.heap.size,cap))) (s.apply wr) (w1.alloc (.cells cells h.e)) ∧
      Ext P n0 (·=id) β σ s w β (upd σ id (some (w1.heap.size,cap))) (s.apply wr) (w1.alloc (.cells cells h.e))∧Tidy a (·=id) s (s.apply wr) ∧
      (s.apply wr).getH id=some h:=by
  have gB:=fun n=>State.getB_apply0 s wr hb n
  have gs:∀ n,(s.apply wr).getH n=if n=id then some h else (s.apply { hs:=fr }).getH n:=fun n=>by
    unfold State.apply State.getH;simp only [hh,E9,BK];exact BQ _ _ _ _
  have old:∀ n e,s.getH n=some e→n≠id:=fun n e he h=>(hf.h n e he h.symm)
  have fget:∀ n h',n≠id→(s.apply wr).getH n=some h'→∃ h0,s.getH n=some h0∧(h'=h0∨h'={ h0 with frozen:=true,dirty:=true }):=fun n h' hn he=>by
    rw [gs,if_neg hn] at he;exact hfr.get rfl n h' he
  have gg:=g.trans (Grow.alloc w1 (.cells cells h.e));have x:Ext P n0 (·=id) β σ s w β (upd σ id (some (w1.heap.size,cap))) (s.apply wr) (w1.alloc (.cells cells h.e)):=by
    refine ⟨gg.os,gg.tape,gg.output,gg.size,fun b hb _=>.inl (gg.old b hb),fun b hb=>?_,fun b e he hn=>?_,fun n e he hn=>?_⟩
    · rcases hb with ⟨n,e,he,hb⟩ | ⟨n,e,cap',he,hfz,hb⟩
      · rw [gB] at he;exact .inl (.inl ⟨n,e,he,hb⟩)
      · by_cases hid:n=id
        · rw [hid,A8] at hb;cases hb;exact .inr g.size
        · obtain ⟨h0,hh0,h1⟩:=fget n e hid he;rw [BB _ _ hid] at hb
          rcases h1 with rfl | rfl
          · exact .inl (.inr ⟨n,e,cap',hh0,hfz,hb⟩)
          · cases hfz
    · rw [gB] at he;exact ⟨⟨e,he⟩,rfl⟩
    · obtain ⟨h0,hh0,h1⟩:=fget n e hn he;refine ⟨h0,hh0,BB _ _ hn,?_⟩
      rcases h1 with rfl | rfl<;>exact ⟨rfl,fun _=>rfl⟩
  have hget:(s.apply wr).getH id=some h:=by rw [gs,if_pos rfl]
  refine ⟨W1 (id:=id) m x (fun n e he=>?_) (fun n e blk he hb=>?_) (fun n h' hn he=>?_) (fun n h' blk cap' hn he hs=>?_) (fun h' he=>?_) (fun blk cap' hs=>?_),x,⟨fun n hfn hn=>?_,fun n e he hd'=>?_,fun n e he hd'=>?_⟩,hget⟩
  · rw [gB] at he;exact ⟨e,he,rfl,fun k hk h=>(hf.b n e he).2 (h▸hk)⟩
  · rw [gB] at he;exact gg.old blk (m.ltB he hb)
  · obtain ⟨h0,hh0,h1⟩:=fget n h' hn he;refine ⟨h0,hh0,?_⟩
    rcases h1 with rfl | rfl
    · exact ⟨rfl,rfl,rfl,fun h=>h,BB _ _ hn⟩
    · exact ⟨rfl,rfl,rfl,(fun h=>by cases h),BB _ _ hn⟩
  · obtain ⟨h0,hh0,_⟩:=fget n h' hn he;exact gg.old blk (m.ltH hh0 hs)
  · rw [hget] at he;cases he;have x1:Ext P n0 (·=id) β σ (s.apply { hs:=fr }) w β (upd σ id (some (w1.heap.size,cap))) (s.apply wr) (w1.alloc (.cells cells h.e)):=by
      refine ⟨gg.os,gg.tape,gg.output,gg.size,fun b hb _=>.inl (gg.old b hb),fun b hb=>?_,fun b e he hn=>?_,fun n e he hn=>?_⟩
      · rcases hb with ⟨n,e,he,hb⟩ | ⟨n,e,cap',he,hfz,hb⟩
        · rw [gB] at he;exact .inl (.inl ⟨n,e,by rw [State.getB_apply0 s _ rfl];exact he,hb⟩)
        · by_cases hid:n=id
          · rw [hid,A8] at hb;cases hb;exact .inr g.size
          · rw [gs,if_neg hid] at he;rw [BB _ _ hid] at hb;exact .inl (.inr ⟨n,e,cap',he,hfz,hb⟩)
      · rw [gB] at he;exact ⟨⟨e,by rw [State.getB_apply0 s _ rfl];exact he⟩,rfl⟩
      · rw [gs,if_neg hn] at he;exact ⟨e,he,BB _ _ hn,rfl,fun _=>rfl⟩
    exact .inl ⟨t,ts,ht,hts,hrl,.inr ⟨w1.heap.size,cap,cells,h.e,A8 _ _ _,Mt _ _,rfl,hsz,hcap,Old.new (Nat.le_trans hn0 g.size),v,hv,fun i j t' hi hj=>x1.rep (hrep i j t' hi hj)⟩⟩
  · rw [A8] at hs;cases hs;refine ⟨fun n e he hb=>?_,fun n h' cap'' hn he hs=>?_⟩
    · rw [gB] at he;have:=m.ltB he hb;have:=g.size;omega
    · obtain ⟨h0,hh0,_⟩:=fget n h' hn he;have:=m.ltH hh0 hs;have:=g.size;omega
  · refine ⟨fun k tv hk=>?_,fun k e he=>?_,fun k e he=>?_⟩
    · rw [State.getT_apply0 s wr ht0] at hk;exact hfn.t k tv hk
    · rw [gB] at he;exact hfn.b k e he
    · by_cases hk:k=id
      · exact fun h=>hn (h.trans hk)
      · obtain ⟨h0,hh0,_⟩:=fget k e hk he;exact hfn.h k h0 hh0
  · rw [gB] at he;exact he
  · by_cases hk:n=id
    · rw [hk,hget] at he;cases he;rw [hd] at hd';cases hd'
    · obtain ⟨h0,hh0,h1⟩:=fget n e hk he
      rcases h1 with rfl | rfl
      · exact hh0
      · cases hd'
theorem ZT {id : Nat} {cs : List (AC0 E N)} (hcn : ∀ n, Fresh a s n → n ∉ AH cs) {wr : Wr (std E N)} (ht0 : wr.ts = []) (hb : wr.bs = [(id, some { cs, dirty := true })]) (hh : wr.hs = []) :
    Tidy a (·=id) s (s.apply wr) where
  fresh n hf hn:=by
    refine ⟨fun k tv hk=>?_,fun k e he=>?_,fun k e he=>?_⟩
    · rw [State.getT_apply0 s wr ht0] at hk;exact hf.t k tv hk
    · rw [State.getB_apply1 s id _ wr hb] at he
      by_cases hk:k=id
      · rw [if_pos hk] at he;cases he;exact ⟨fun h=>hn (h.trans hk),hcn n hf⟩
      · rw [if_neg hk] at he;exact hf.b k e he
    · rw [State.getH_apply0 s wr hh] at he;exact hf.h k e he
  cleanB n e he hd:=by
    rw [State.getB_apply1 s id _ wr hb] at he
    by_cases hk:n=id
    · rw [if_pos hk] at he;cases he;cases hd
    · rw [if_neg hk] at he;exact he
  cleanH n e he hd:=by rw [State.getH_apply0 s wr hh] at he;exact he
theorem bE (m : Mem P n0 β σ s w) {c : AC0 E N} {v : Value} {l : AU} {fr : List (Nat × Option (HEnt (std E N)))} {nw : Bool} {k k' : Nat} (hc : RelC P n0 β σ s w c v)
    (h:RM.run s (jB (O:=std E N) c) k=.ok ((l,fr,nw),k')):FrOK s fr∧(∀ x∈fr,x.1∈c.names) ∧
      ∀ (t:TypeId) (s1:St0 E N),BG (AL P t) c=true→Sub s s1→(∀ x∈fr,∀ h,s1.getH x.1=some h→h.frozen=true)→(∀ x∈fr,∃ h,s1.getH x.1=some h) →
        ∀ nw':Bool,(nw'=true→nw=true)→Rep P w (StB n0 β σ s1 nw') t v l.pv:=by
  cases c with
  | int q i =>
    have hr:=zzc h;simp only [Prod.mk.injEq] at hr;obtain ⟨rfl,rfl,rfl⟩:=hr;refine ⟨fun _ _ hm=>by simp at hm,fun _ hm=>by simp at hm,fun t s1 hk _ _ _ nw' _=>?_⟩;have hv:v=.int q i:=hc;subst hv;unfold BG at hk
    split at hk
    · rename_i q2 q3 i2 hl e;cases e;have:=Hb.1 hk;subst this;exact .int hl
    all_goals (rename_i e;first | cases e | cases hk)
  | bool b =>
    have hr:=zzc h;simp only [Prod.mk.injEq] at hr;obtain ⟨rfl,rfl,rfl⟩:=hr;refine ⟨fun _ _ hm=>by simp at hm,fun _ hm=>by simp at hm,fun t s1 hk _ _ _ nw' _=>?_⟩;have hv:v=.bool b:=hc;subst hv;cases hl:AL P t<;>rw [hl] at hk<;>simp [BG] at hk;exact .bool hl
  | str x =>
    have hr:=zzc h;simp only [Prod.mk.injEq] at hr;obtain ⟨rfl,rfl,rfl⟩:=hr;refine ⟨fun _ _ hm=>by simp at hm,fun _ hm=>by simp at hm,fun t s1 hk _ _ _ nw' _=>?_⟩;have hv:v=.string x:=hc;subst hv;cases hl:AL P t<;>rw [hl] at hk<;>simp [BG] at hk;exact .str hl
  | nil e =>
    have hr:=zzc h;simp only [Prod.mk.injEq] at hr;obtain ⟨rfl,rfl,rfl⟩:=hr;refine ⟨fun _ _ hm=>by simp at hm,fun _ hm=>by simp at hm,fun t s1 hk _ _ _ nw' _=>?_⟩;obtain ⟨t0,ts,ht0,hts,av,rfl⟩:=hc;cases hl:AL P t<;>rw [hl] at hk<;>simp [BG] at hk;rename_i e2;subst hk;exact .sl (fun _ _=>undef) hl hts rfl (by simp) (Nat.le_refl _) (.inl rfl) (fun i j t' hi=>by omega)
  | opq nw0 n0' =>
    have hr:=zzc h;simp only [Prod.mk.injEq] at hr;obtain ⟨rfl,rfl,rfl⟩:=hr;refine ⟨fun _ _ hm=>by simp at hm,fun _ hm=>by simp at hm,fun t s1 hk hsub _ _ nw' hnw=>?_⟩;cases hl:AL P t<;>rw [hl] at hk<;>simp [BG] at hk;obtain ⟨t0,ht0,hrep⟩:=hc;have h2:=hrep.st (St':=StB n0 β σ s1 nw') (fun b hb=>⟨fun hm=>hb.1 (hsub.inM hm),hb.2.mono hnw⟩);cases h2 with
    | opq h hc hm=>exact .opq hl hc hm
    | int h=>rw [ht0] at h;cases h
  | imm e nw0 l0 =>
    have hr:=zzc h;simp only [Prod.mk.injEq] at hr;obtain ⟨rfl,rfl,rfl⟩:=hr;refine ⟨fun _ _ hm=>by simp at hm,fun _ hm=>by simp at hm,fun t s1 hk hs _ _ nw' hnw=>?_⟩;obtain ⟨t0,ht0,hrep⟩:=hc;cases hl:AL P t<;>rw [hl] at hk<;>simp [BG] at hk;rename_i e2;subst hk;have h2:=hrep.st (St':=StB n0 β σ s1 nw') (fun b hb=>⟨fun hm=>hb.1 (hs.inM hm),hb.2.mono hnw⟩);cases h2 with
    | sl v h hts hl' hr hc hm hv=>exact .sl v hl (by rw [ht0] at h;cases h;exact hts) hl' hr hc hm hv
  | own e id =>
    obtain ⟨k1,h⟩:=zzf h;cases hh:s.getH id with
    | none=>rw [hh] at h;exact (zzb h).elim
    | some en =>
      rw [hh] at h;have hr:=zzc h;simp only [Prod.mk.injEq] at hr;obtain ⟨rfl,rfl,rfl⟩:=hr;refine ⟨fun n v hm=>?_,fun x hm=>?_,fun t s1 hk hs hfz hex nw' hnw=>?_⟩
      · simp only [List.mem_singleton,Prod.mk.injEq] at hm;obtain ⟨rfl,rfl⟩:=hm;exact ⟨en,hh,rfl⟩
      · simp only [List.mem_singleton] at hm;subst hm;simp [AC.names]
      · obtain ⟨⟨te,hte,_⟩,hown⟩:=hc;obtain ⟨he,ho⟩:=hown en hh;obtain ⟨h1,hh1⟩:=hex _ zzl;have hf1:=hfz _ zzl h1 hh1;obtain ⟨h2,hh2,q1,q2,q3,_⟩:=hs.h id h1 hh1;rw [hh] at hh2;cases hh2;obtain ⟨t0,ht0,hrep⟩:=rh (hs.mem m) hh1 hf1 (v:=v) ⟨te,by rw [q1,he];exact hte⟩ (by rw [q2];exact ho);rw [q1,he] at ht0;rw [q2,q3] at hrep;cases hl:AL P t<;>rw [hl] at hk<;>simp [BG] at hk;rename_i e2;subst hk;have h2:=hrep.st (St':=StB n0 β σ s1 nw') (fun b hb=>⟨hb.1,hb.2.mono hnw⟩);cases h2 with
        | sl v h hts hl' hr hc hm hv=>exact .sl v hl (by rw [ht0] at h;cases h;exact hts) hl' hr hc hm hv
  | _=>exact (zzb h).elim
def Frz (s1:St0 E N) (fr:List (Nat×Option (HEnt (std E N)))):Prop:=∀ x∈fr,∃ h,s1.getH x.1=some h∧h.frozen=true
theorem FrOK.frz {fr:List (Nat×Option (HEnt (std E N)))} (h:FrOK s fr) {wr:Wr (std E N)} (hw:wr.hs=fr):Frz (s.apply wr) fr:=by
 intro x hx;obtain ⟨h0,hh0,hv⟩:=h x.1 x.2 hx;refine ⟨{ h0 with frozen:=true,dirty:=true },?_,rfl⟩;unfold State.apply State.getH;rw [hw];exact Vw (fun y hy he=>by
  obtain ⟨h1,hh1,hv1⟩:=h y.1 y.2 hy;rw [he,hh0] at hh1;cases hh1;exact hv1) ⟨x,hx,rfl⟩
theorem Frz.left {s1:St0 E N} {f1 f2:List (Nat×Option (HEnt (std E N)))} (h:Frz s1 (f1++f2)):Frz s1 f1:=fun x hx=>h x (List.mem_append_left _ hx)
theorem Frz.right {s1:St0 E N} {f1 f2:List (Nat×Option (HEnt (std E N)))} (h:Frz s1 (f1++f2)):Frz s1 f2:=fun x hx=>h x (List.mem_append_right _ hx)
theorem FrOK.append {f1 f2:List (Nat×Option (HEnt (std E N)))} (h1:FrOK s f1) (h2:FrOK s f2):FrOK s (f1++f2) :=
 fun n v hm=>(List.mem_append.1 hm).elim (h1 n v) (h2 n v)
theorem UK (m : Mem P n0 β σ s w) : ∀ {cs : List (AC0 E N)} {vs : List Value} {ls : List AU} {fr : List (Nat × Option (HEnt (std E N)))} {nw : Bool} {k k' : Nat}, RelCs P n0 β σ s w cs vs →
    RM.run s (LS (O:=std E N) cs) k=.ok ((ls,fr,nw),k')→FrOK s fr∧(∀ x∈fr,x.1∈AH cs)∧ls.length=cs.length ∧
      ∀ (ts:List TypeId) (s1:St0 E N),AX P ts cs=true→Sub s s1→Frz s1 fr→∀ nw':Bool,(nw'=true→nw=true) →
        ∀ (q:Nat) (t':TypeId) (v:Value),ts[q]?=some t'→vs[q]?=some v→Rep P w (StB n0 β σ s1 nw') t' v (AA (ls.map Leaf.pv) q)
  | [],[],ls,fr,nw,k,k',_,h=>by
    have hr:=zzc h;simp only [Prod.mk.injEq] at hr;obtain ⟨rfl,rfl,rfl⟩:=hr;exact ⟨fun _ _ hm=>by simp at hm,fun _ hm=>by simp at hm,rfl,fun ts s1 _ _ _ nw' _ q t' v _ hv=>by simp at hv⟩
  | c::cs,v::vs,ls,fr,nw,k,k',hc,h=>by
    obtain ⟨⟨l,f1,n1⟩,k1,h1,h2⟩:=zza h;obtain ⟨⟨ls2,f2,n2⟩,k2,h3,h4⟩:=zza h2;have hr:=zzc h4;simp only [Prod.mk.injEq] at hr;obtain ⟨rfl,rfl,rfl⟩:=hr;obtain ⟨a1,a2,a3⟩:=bE m hc.1 h1;obtain ⟨b1,b2,b4,b3⟩:=UK m hc.2 h3;refine ⟨a1.append b1,fun x hx=>?_,by simp [b4],fun ts s1 hk hs hf nw' hnw q t' v' hq hv=>?_⟩
    · rcases List.mem_append.1 hx with h | h
      · simp [AH,a2 x h]
      · simp [AH,b2 x h]
    · cases ts with
      | nil=>simp at hq
      | cons t ts =>
        simp only [AX] at hk
        split at hk
        · rename_i hk1;cases q with
          | zero =>
            simp at hq hv;subst hq;subst hv;exact a3 t s1 hk1 hs (fun x hx h hh=>by obtain ⟨h',e1,e2⟩:=hf.left x hx;rw [e1] at hh;cases hh;exact e2)
              (fun x hx=>by obtain ⟨h',e1,_⟩:=hf.left x hx;exact ⟨h',e1⟩) nw' (fun e=>by have:=hnw e;simp at this;exact this.1)
          | succ q =>
            have:=b3 ts s1 hk hs hf.right nw' (fun e=>by have:=hnw e;simp at this;exact this.2) q t' v' (by simpa using hq) (by simpa using hv);simpa [AA] using this
        · cases hk
  | [],_::_,_,_,_,_,_,hc,_=>hc.elim
  | _::_,[],_,_,_,_,_,hc,_=>hc.elim
theorem kF (m : Mem P n0 β σ s w) : ∀ {css : List (List (AC0 E N))} {vss : List (List Value)} {ls : List (List AU)} {fr : List (Nat × Option (HEnt (std E N)))} {nw : Bool} {k k' : Nat},
    css.length=vss.length→(∀ (i:Nat) (cs:List (AC0 E N)) (vs:List Value),css[i]?=some cs→vss[i]?=some vs→RelCs P n0 β σ s w cs vs) →
    RM.run s (nV (O:=std E N) css) k=.ok ((ls,fr,nw),k')→FrOK s fr∧(∀ x∈fr,∃ cs∈css,x.1∈AH cs)∧ls.length=css.length∧(∀ (i:Nat) (l:List AU) (cs:List (AC0 E N)),ls[i]?=some l→css[i]?=some cs→l.length=cs.length) ∧
      ∀ (ts:List TypeId) (s1:St0 E N),K4 P ts css=true→Sub s s1→Frz s1 fr→∀ nw':Bool,(nw'=true→nw=true) →
        ∀ (i q:Nat) (t':TypeId) (vs:List Value) (v:Value),vss[i]?=some vs→ts[q]?=some t'→vs[q]?=some v→Rep P w (StB n0 β σ s1 nw') t' v (AF (ls.map (·.map Leaf.pv)) i q)
  | [],[],ls,fr,nw,k,k',_,_,h=>by
    have hr:=zzc h;simp only [Prod.mk.injEq] at hr;obtain ⟨rfl,rfl,rfl⟩:=hr;exact ⟨fun _ _ hm=>by simp at hm,fun _ hm=>by simp at hm,rfl,fun i l cs hl=>by simp at hl,fun ts s1 _ _ _ nw' _ i q t' vs v hv=>by simp at hv⟩
  | c::cs,v::vs,ls,fr,nw,k,k',hlen,hc,h=>by
    obtain ⟨⟨l,f1,n1⟩,k1,h1,h2⟩:=zza h;obtain ⟨⟨ls2,f2,n2⟩,k2,h3,h4⟩:=zza h2;have hr:=zzc h4;simp only [Prod.mk.injEq] at hr;obtain ⟨rfl,rfl,rfl⟩:=hr;obtain ⟨a1,a2,a4,a3⟩:=UK m (hc 0 c v rfl rfl) h1;obtain ⟨b1,b2,b4,b5,b3⟩:=kF m (by simpa using hlen) (fun i c v hc1 hv1=>hc (i+1) c v (by simpa using hc1) (by simpa using hv1)) h3;refine ⟨a1.append b1,fun x hx=>?_,by simp [b4],fun i l' c' hl hc'=>?_,fun ts s1 hk hs hf nw' hnw i q t' vs' v' hvs hq hv=>?_⟩
    · rcases List.mem_append.1 hx with h | h
      · exact ⟨c,zzl,a2 x h⟩
      · obtain ⟨c',hc',hn⟩:=b2 x h;exact ⟨c',zzm _ hc',hn⟩
    · cases i with
      | zero=>simp at hl hc';subst hl;subst hc';exact a4
      | succ i=>exact b5 i l' c' (by simpa using hl) (by simpa using hc')
    · simp only [K4] at hk
      split at hk
      · rename_i hk1;cases i with
        | zero =>
          simp at hvs;subst hvs;have:=a3 ts s1 hk1 hs hf.left nw' (fun e=>by have:=hnw e;simp at this;exact this.1) q t' v' hq hv;simpa [AF,AB] using this
        | succ i =>
          have:=b3 ts s1 hk hs hf.right nw' (fun e=>by have:=hnw e;simp at this;exact this.2) i q t' vs' v' (by simpa using hvs) hq hv;simpa [AF,AB] using this
      · cases hk
  | [],_::_,_,_,_,_,_,hl,_,_=>by simp at hl
  | _::_,[],_,_,_,_,_,hl,_,_=>by simp at hl
theorem JQ {α:Type} (n:Nat):∀ (k:Nat) (l:List α),(Ji n k l).length=k
 | 0,_=>rfl
 | k+1,l=>by simp [Ji,JQ n k]
theorem Xt {α:Type} (n:Nat):∀ (k i:Nat) (l:List α),i<k→(Ji n k l)[i]?=some ((l.drop (i * n)).take n)
 | k+1,0,l,_=>by simp [Ji]
 | k+1,i+1,l,h=>by
  simp only [Ji,List.getElem?_cons_succ];rw [Xt n k i _ (by omega),List.drop_drop];congr 3;rw [Nat.add_mul,Nat.one_mul,Nat.add_comm]
theorem cq {α:Type} (k:Nat) (l:List α):(Ds k l).length=k * l.length:=by
 induction k with
 | zero=>simp [Ds]
 | succ k ih=>simp [Ds,ih,Nat.add_mul,Nat.add_comm]
theorem eC {α:Type} {l:List α} (hl:0<l.length):∀ (k i:Nat),i<k * l.length→(Ds k l)[i]?=l[i % l.length]?
 | 0,i,h=>by simp at h
 | k+1,i,h=>by
  simp only [Ds]
  by_cases hi:i<l.length
  ·rw [List.getElem?_append_left hi,Nat.mod_eq_of_lt hi]
  ·rw [List.getElem?_append_right (by omega),eC hl k (i - l.length) (by rw [Nat.add_mul,Nat.one_mul] at h;omega)];congr 1
   conv=>rhs;rw [show i=i - l.length+l.length by omega]
   rw [Nat.add_mod_right]
theorem pC {cs:List (AC0 E N)} {vs:List Value} (h:RelCs P n0 β σ s w cs vs) (k:Nat):RelCs P n0 β σ s w (Ds k cs) (Ds k vs):=by
 induction k with
 | zero=>trivial
 | succ k ih=>exact RelCs.append h ih
theorem iS (z:Array Value) (hz:0<z.size) (k:Nat):((Array.range (k * z.size)).map (z[· % z.size]!)).toList=Ds k z.toList:=by
 apply List.ext_getElem?;intro i
 by_cases hi:i<k * z.size
 ·have hm:i % z.size<z.size:=Nat.mod_lt _ hz;rw [eC (by simpa using hz) k i (by simpa using hi)];simp [hi,hm,getElem!_pos,List.getElem?_range]
 ·rw [List.getElem?_eq_none (by simp;omega),List.getElem?_eq_none (by rw [cq];simp;omega)]
theorem LG {o:Oper} {x:Sem Value} {z:Value} {w1:World} (he:execOp a.eval o=(do pure (.value (← x)))) (hx:x.run P w=.ok z w1):(execOp a.eval o).run P w=.ok (.value z) w1:=by
 rw [he];simp [hx]
end
end Go.Px
end
