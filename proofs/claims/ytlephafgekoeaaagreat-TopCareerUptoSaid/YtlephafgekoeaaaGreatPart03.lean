/- Part 3. -/
import Derived.Test.YtlephafgekoeaaaGreatPart02
set_option linter.unusedVariables false
set_option linter.unusedSimpArgs false
section
namespace Go.Px
section
variable {E:Env} {N:Nat} {P:Program} {n0:Nz} {nt:Nat} {β:Nat→Option Nat} {σ:Nat→Option (Nat×Nat)} {s:St0 E N} {a:Act} {w:World}
theorem GE {α:Type}:∀{l:List α} {off:Nat} {r l':List α},D1 l off r=some l'→l'=l.take off++r++l.drop (off+r.length)∧(r=[]∨off+r.length≤l.length)
 |l,off,[],l',h=>by simp only[D1]at h;cases h;simp
 | [],off,y::ys,l',h=>by trivial
 |x::l,0,y::ys,l',h=>by
  simp only[D1,zzo]at h;obtain⟨m,hm,rfl⟩:=h;obtain⟨h1,h2⟩:=GE hm
  grind
 |x::l,n+1,y::ys,l',h=>by
  simp only[D1,zzo]at h;obtain⟨m,hm,rfl⟩:=h;obtain⟨h1,h2⟩:=GE hm
  grind
theorem Ml {cs r cs':List (AC0 E N)} {off:Nat} {vs us:List Value} (h:D1 cs off r=some cs') (hc:RelCs P n0 β σ s w cs vs) (hr:RelCs P n0 β σ s w r us) :
    RelCs P n0 β σ s w cs' (vs.take off++us++vs.drop (off+us.length)):=by
  obtain⟨rfl,_⟩:=GE h;have hl:=RelCs.length hr;refine RelCs.append (RelCs.append (RelCs.take off hc) hr) ?_;rw[hl];exact RelCs.drop _ hc
theorem jL {cs r cs':List (AC0 E N)} {off n:Nat} (h:D1 cs off r=some cs') (hn:n∈AH cs'):n∈AH cs∨n∈AH r:=by
 obtain⟨rfl,_⟩:=GE h;rw[BU]at hn;obtain⟨c,hc,hm⟩:=hn;rw[List.mem_append,List.mem_append]at hc
 rcases hc with(hc|hc)|hc
 ·exact .inl (BU.2 ⟨c,List.mem_of_mem_take hc,hm⟩)
 ·exact .inr (BU.2 ⟨c,hc,hm⟩)
 exact .inl (BU.2 ⟨c,List.mem_of_mem_drop hc,hm⟩)
theorem rV {α:Type} (l:List α) (k:Nat) (v:α) (rest:List α) (h:k+(rest.length+1)≤l.length) :
    (l.set k v).take (k+1)++rest++(l.set k v).drop (k+1+rest.length)=l.take k++(v::rest)++l.drop (k+(rest.length+1)):=by
  have h1:(l.set k v).take (k+1)=l.take k++[v]:=by
    apply List.ext_getElem?
    grind
  have h2:(l.set k v).drop (k+1+rest.length)=l.drop (k+(rest.length+1)):=by
    apply List.ext_getElem?
    grind
  simp_all
theorem mL (off:Nat):∀ (xs:List Value) (k:Nat) (cs:Array Value),off+k+xs.length≤cs.size →
    ((xs.zipIdx k).foldl (fun cs (x:Value×Nat)=>cs.setIfInBounds (off+x.2) x.1) cs).toList=cs.toList.take (off+k)++xs++cs.toList.drop (off+k+xs.length)
  | [],k,cs,h=>by simp
  |x::xs,k,cs,h=>by
    simp only[List.zipIdx_cons,List.foldl_cons];rw[mL off xs (k+1) _ (by grind)];simp only[Array.toList_setIfInBounds];have:=rV cs.toList (off+k) x xs (by omega);omega
theorem uv (off:Nat) (v cells:Array Value) (h:off+v.size≤cells.size) :
    (v.zipIdx.foldl (fun cs (x:Value×Nat)=>cs.setIfInBounds (off+x.2) x.1) cells).toList=cells.toList.take off++v.toList++cells.toList.drop (off+v.size):=by
  rw[←Array.foldl_toList];have:=mL off v.toList 0 cells (by omega)
  simp_all
theorem Xp (hs:Sim P n0 nt β σ s a w) {ctx:List (Nat×Bool)} (hf:Facts a ctx) {place:Nat→Option (Nat×TypeId)} {place':Nat→Option (Nat×Nat)}
    (hpl:∀i off T,place i=some (off,T)→place' i=some (off,P.cellsOf T)):∀{parts:List (Nat×Operand)} {cs cs':List (AC0 E N)} {cells:Array Value} {m m':Nat},
    RM.run s (cK P place ctx parts cs) m=.ok (cs',m')→RelCs P n0 β σ s w cs cells.toList →
    ∃cells',Instr.fill place' cells (parts.map fun (i,x)=>(i,a.eval x))=some cells'∧RelCs P n0 β σ s w cs' cells'.toList∧cs'.length=cs.length ∧
      ∀n,Fresh a s n→n∉AH cs→n∉AH cs'
  | [],cs,cs',cells,m,m',h,hr=>by cases zzc h;exact⟨cells,rfl,hr,rfl,fun n _ h=>h⟩
  |(i,x)::parts,cs,cs',cells,m,m',h,hr=>by
    simp only[cK]at h
    split at h
    · trivial
    rename_i off T hp;obtain⟨v,m1,h1,h2⟩:=zza h;obtain⟨u,m2,h3,h4⟩:=zza h2;have hg:=zzd h3;simp only[zzj]at hg;have hsz:=AG.1 hg.1;have hpos:=A7.1 hg.2;obtain⟨hv,hn⟩:=Mj hs hf h1
    split at h4
    · rename_i cs2 hcs2;have hlen:=RelCs.length hv.1;have hvs:(a.eval x).cells.size=P.cellsOf T:=by simp_all
      obtain⟨e1,e2⟩:=GE hcs2;have hcl:=RelCs.length hr;have hrr:=Ml hcs2 hr hv.1;simp only[List.map_cons,Instr.fill,hpl i off T hp,hvs]
      by_cases hfit:off+P.cellsOf T≤cells.size
      · have hne:¬(P.cellsOf T≠P.cellsOf T∨off+P.cellsOf T>cells.size):=by omega
        have hfc:=uv off (a.eval x).cells cells (by omega);have hrr':RelCs P n0 β σ s w cs2 ((a.eval x).cells.zipIdx.foldl (fun cs (x:Value×Nat)=>cs.setIfInBounds (off+x.2) x.1) cells).toList:=by
          simp_all
        obtain⟨cells',f1,f2,f3,f4⟩:=Xp hs hf hpl h4 hrr';refine⟨cells',?_,f2,?_,fun n hf hc=>f4 n hf (fun hx=>(jL hcs2 hx).elim hc (hn n hf))⟩
        · simp_all
        grind
      simp_all
    trivial
theorem LW {T:TypeId} {z:Val (std E N)} (h:PA P T=some z):∃ i v,P.info? T=some i∧i.zero=some v∧(zeroValue T).run P w=.ok v w ∧
    RelVal P n0 β σ s w z v∧AH z.cs=[]∧∀u∈v.cells.toList,u.oneCell'=true:=by
  unfold PA at h
  split at h
  · rename_i i hi
    split at h
    · rename_i v hv;obtain⟨r,n,o⟩:=iZ (n0:=n0) (β:=β) (σ:=σ) (s:=s) (w:=w) h;exact⟨i,v,hi,hv,by simp[zeroValue,typeInfo,hi,hv],r,n,o⟩
    cases h
  cases h
theorem Af {op:BinOp} {T:TypeId} {x y:Operand} {u v r:Value} (h1:(eqGuard op T x y u v).run P w=.ok () w) (h2:(binOp op T u v).run P w=.ok r w) :
    (do eqGuard op T x y u v;binOp op T u v:Sem Value).run P w=.ok r w:=by
  simp_all
theorem zX {op:BinOp} {T yT:TypeId} {x y:Operand} {p q:Val (std E N)} {u v:Value} {as:List Bool} {r:AV (std E N)} {fr:List (Nat×Option (HEnt (std E N)))} {m m':Nat}
    (hp:RelVal P n0 β σ s w p u) (hq:RelVal P n0 β σ s w q v) (hy:∀k n,y=.const (.int k n)→v=.int k n)
    (h:RM.run s (vW P op T y p q) m=.ok ((as,r,fr),m')) (has:∀b∈as,b=true) :
    ∃z,(do eqGuard op T x y u v;binOp op T u v:Sem Value).run P w=.ok z w∧RelAV P n0 β σ s w r z∧r.names=[]∧fr=[]:=by
  obtain⟨pa,pc⟩:=p;obtain⟨qa,qc⟩:=q;unfold vW at h;simp only at h
  split at h
  ·
    rename_i k i k' j;have hu:u=.int k i:=C0 hp;have hv:v=.int k' j:=C0 hq
    split at h
    · rename_i l hl;subst hu;subst hv;have hg:∀op,(eqGuard op T x y (.int k i) (.int k' j)).run P w=.ok () w:=fun op=>Cv op T x y _ _ rfl (by simp)
      have hj:¬((j:Int)<0):=by
        refine Int.not_lt.2 ?_;cases hn:cJ y
        · rw[hn]at h;cases zzc h;exact of_decide_eq_true (show decide ((0:Int)≤j)=true from has _ (List.mem_singleton.2 rfl))
        unfold cJ at hn
        grind
      have hz:(binOp op T (.int k i) (.int k' j)).run P w=.ok (.int k (rK l k i j)) w:=by
        unfold ACW at hl
        split at hl
        · cases hl;simp[binOp,Op.shift,hj,rK]
        · cases hl;simp[binOp,Op.shift,hj,rK]
        cases hl
      cases hn:cJ y
      · rw[hn]at h;cases zzc h;exact⟨_,Af (hg _) hz,Ac rfl,rfl,rfl⟩
      rw[hn]at h;cases zzc h;exact⟨_,Af (hg _) hz,Ac rfl,rfl,rfl⟩
    split at h
    · trivial
    rename_i hk;have:=He.1 hk;subst this;subst hu;subst hv;have hg:∀op,(eqGuard op T x y (.int k i) (.int k j)).run P w=.ok () w:=fun op=>Cv op T x y _ _ rfl (by simp)
    split at h
    · rename_i c hc;have hz:(binOp op T (.int k i) (.int k j)).run P w=.ok (.int k (fW c k i j)) w:=by
        unfold AAT at hc
        split at hc
        · cases hc;simp[binOp,Op.intBits,fW]
        · cases hc;simp[binOp,Op.intBits,fW]
        · cases hc;simp[binOp,Op.intBits,fW]
        · cases hc;simp[binOp,Op.intBits,fW]
        cases hc
      cases zzc h;exact⟨_,Af (hg _) hz,Ac rfl,rfl,rfl⟩
    split at h
    · cases zzc h;exact⟨_,Af (hg _) (by simp[binOp,Op.intArith]),Ac rfl,rfl,rfl⟩
    · cases zzc h;exact⟨_,Af (hg _) (by simp[binOp,Op.intArith]),Ac rfl,rfl,rfl⟩
    · cases zzc h;exact⟨_,Af (hg _) (by simp[binOp,Op.intArith]),Ac rfl,rfl,rfl⟩
    · have hj:(j:Int)≠0:=by
        cases hn:Ip y
        · rw[hn]at h;cases zzc h
          simp_all
        obtain⟨k2,n2,rfl,hn2⟩:=Wn hn;simp_all
      have hz:(binOp .quo T (.int k i) (.int k j)).run P w=.ok (.int k (k.wrap (Int.tdiv i j))) w:=by simp[binOp,Op.intDiv,hj]
      cases hn:Ip y
      · rw[hn]at h;cases zzc h;exact⟨_,Af (hg _) hz,Ac rfl,rfl,rfl⟩
      rw[hn]at h;cases zzc h;exact⟨_,Af (hg _) hz,Ac rfl,rfl,rfl⟩
    · have hj:(j:Int)≠0:=by
        cases hn:Ip y
        · rw[hn]at h;cases zzc h
          simp_all
        obtain⟨k2,n2,rfl,hn2⟩:=Wn hn;simp_all
      have hz:(binOp .rem T (.int k i) (.int k j)).run P w=.ok (.int k (Int.tmod i j)) w:=by simp[binOp,Op.intDiv,hj]
      cases hn:Ip y
      · rw[hn]at h;cases zzc h;exact⟨_,Af (hg _) hz,Ac rfl,rfl,rfl⟩
      rw[hn]at h;cases zzc h;exact⟨_,Af (hg _) hz,Ac rfl,rfl,rfl⟩
    split at h
    · rename_i c hc;cases zzc h;exact⟨_,Af (hg _) (yV hc T k),Ac rfl,rfl,rfl⟩
    trivial
  ·
    rename_i x1 y1;have hu:u=.string x1:=C0 hp;have hv:v=.string y1:=C0 hq;subst hu;subst hv;have hg:∀op,(eqGuard op T x y (.string x1) (.string y1)).run P w=.ok () w:=fun op=>Cv op T x y _ _ rfl (by simp)
    split at h
    · cases zzc h;exact⟨_,Af (hg _) (by rfl),Ac rfl,rfl,rfl⟩
    · cases zzc h;exact⟨_,Af (hg _) (by rfl),Ac rfl,rfl,rfl⟩
    · cases zzc h;exact⟨_,Af (hg _) (by rfl),Ac rfl,rfl,rfl⟩
    · cases zzc h;have h1:=has _ zzl;have h2:=has _ (zzm _ zzl);have h1:=of_decide_eq_true (show decide _=true from h1);have h2:=of_decide_eq_true (show decide _=true from h2);have h3:((ByteArray.size x1:Nat):Int)≤17592186044416:=h1.2.1;have h4:((ByteArray.size y1:Nat):Int)≤17592186044416:=h2.2.1;refine ⟨_,Af (hg _) ?_,Ac rfl,rfl,rfl⟩;have h5:¬ (((ByteArray.size x1+ByteArray.size y1:Nat):Int) > IntKind.i64.max):=by
        simp only[IntKind.max,IntKind.signed,IntKind.bits];simp;omega
      simp[binOp,Op.stringOp];omega
    trivial
  rename_i hni hns;have gen:∀ (b:Bool) (ts:List TypeId),AW P T=some ts→(pa==Ag P T&&qa==Ag P T&&X9 P Dy T && !P.eqGuardType P.depth T&&Co P ts pc&&Co P ts qc)=true →
      Kb (O:=std E N) pc qc=some b→∃z:Unit,((do eqGuard .eql T x y u v;binOp .eql T u v:Sem Value).run P w=.ok (.bool b) w∧(do eqGuard .neq T x y u v;binOp .neq T u v:Sem Value).run P w=.ok (.bool !b) w)∧z=():=by
    intro b ts hts hc he;simp only[zzj,beq_iff_eq,Bool.not_eq_true']at hc;obtain⟨⟨⟨⟨⟨h1,h2⟩,h3⟩,h4⟩,h5⟩,h6⟩:=hc;refine⟨(),?_,rfl⟩;have heq:=WN (P:=P) (n0:=n0) (β:=β) (σ:=σ) (s:=s) (w:=w) Dy 10000 T ts pc qc u.cells.toList v.cells.toList b (by trivial) h3 hts hp.1 hq.1 h5 h6 he;cases hag:Ag P T
    · rw[hag]at h1 h2;subst h1;subst h2;have ou:=hp.2;have ov:=hq.2;simp only at ou ov;have lp:=RelCs.length hp.1;have lq:=RelCs.length hq.1;rw[Bp ou]at lp;rw[Bp ov]at lq
      match pc,qc,lp,lq with
      | [c1],[c2],_,_ =>
        have r1:=C0 hp;have r2:=C0 hq;have he2:eqC (O:=std E N) c1 c2=some b:=he;unfold eqC at he2
        split at he2
        · grind
        · rename_i i j _ _;cases he2;have hu:u=.bool i:=r1;have hv:v=.bool j:=r2;subst hu;subst hv;have hm:∀c:Bool,Jz P T (Value.bool c).cells.toList=.bool c:=fun c=>by simp[Jz,hag,Value.cells]
          rw[hm,hm]at heq;exact⟨Af (Cv _ T x y _ _ rfl (by simp)) (by simp only[binOp,Op.equal,Op.maxDepth,Sem.run_bind,heq,Result.andThen_ok,Sem.run_pure]),
            Af (Cv _ T x y _ _ rfl (by simp)) (by simp only[binOp,Op.equal,Op.maxDepth,Sem.run_bind,heq,Result.andThen_ok,Sem.run_pure])⟩
        · simp_all
        grind
    rw[hag]at h1 h2;subst h1;subst h2;obtain⟨us,rfl,_⟩:=PU hp;obtain⟨vs,rfl,_⟩:=PU hq;have hm:∀xs:Array Value,Jz P T (Value.agg xs).cells.toList=.agg xs:=fun xs=>by simp[Jz,hag,Value.cells]
    rw[hm,hm]at heq;exact⟨Af (run_eqGuard_agg w _ T x y us vs h4) (by rw[run_eql_struct,heq];rfl),Af (run_eqGuard_agg w _ T x y us vs h4) (by rw[run_neq_struct,heq];rfl)⟩
  split at h
  · trivial
  rename_i ts hts
  split at h
  · rename_i b hc he;cases zzc h;obtain⟨z,hz,rfl⟩:=gen b ts hts hc he;exact⟨_,hz.1,Ac rfl,rfl,rfl⟩
  · rename_i b hc he;cases zzc h;obtain⟨z,hz,rfl⟩:=gen b ts hts hc he;exact⟨_,hz.2,Ac rfl,rfl,rfl⟩
  trivial
theorem Jl (k:IntKind) (i:Int):(asIntOf (.int k i)).run P w=.ok (k,i) w:=rfl
theorem lF (hs:Sim P n0 nt β σ s a w) {T:TypeId} {p:AC0 E N} {ix:Operand} {v:Value} {k:IntKind} {i:Int} {as:List Bool} {r:AV (std E N)}
    {fr:List (Nat×Option (HEnt (std E N)))} {m m':Nat} (hp:RelC P n0 β σ s w p v) (hc:∀k' n,ix=.const (.int k' n)→i=n)
    (h:RM.run s (WH P T p ix i) m=.ok ((as,r,fr),m')) (has:∀b∈as,b=true) :
    ∃z,(Instr.indexAt T v (.int k i)).run P w=.ok z w∧RelAV P n0 β σ s w r z∧(∀n∈r.names,n∈p.names)∧fr=[]:=by
  unfold WH at h
  split at h
  ·
    rename_i n e hu;obtain ⟨_,m1,hg,h2⟩:=zza h;clear h;obtain ⟨ti,hti⟩:=FD (A7.1 (zzd hg));have run:∀ (blk o:Nat),v=.pointer (some ⟨blk,o,none⟩)→0≤i→i<(n:Int) →
        (Instr.indexAt T v (.int k i)).run P w=.ok (.pointer (some ⟨blk,o+i.toNat*P.cellsOf e,none⟩)) w:=by
      intro blk o hv h0 h1;subst hv;simp[Instr.indexAt,Jl,run_underlying hu,Instr.sureAddr,h0,h1,BX hti,Iw]
    split at h2
    · rename_i k' c;have hic:=hc _ _ rfl;subst hic
      split at h2
      · rename_i p' hd hp';cases zzc h2;have hb:0≤i∧i<(n:Int):=of_decide_eq_true hd;obtain⟨blk,o,hv,hr,hn⟩:=jY hp' hp;exact⟨_,run blk o hv hb.1 hb.2,Ac hr,fun n hm=>by simpa[AV.names,one,AH,hn] using hm,rfl⟩
      trivial
    split at h2
    · rename_i b off;cases zzc h2;have h1:decide (0≤i∧i<(n:Int))=true:=has _ zzl;have hb:0≤i∧i<(n:Int):=of_decide_eq_true h1;obtain⟨blk,hv,hk⟩:=hp;exact⟨_,run blk off hv hb.1 hb.2,Ac ⟨hb.1,hb.2,blk,rfl,hk⟩,fun n hm=>by trivial,rfl⟩
    trivial
  ·
    rename_i e hu;have run:∀ (blk o len cap:Nat) (ts:List TypeId),AW P e=some ts→v=.slice (some ⟨blk,o,none⟩) len cap→0≤i→i<(len:Int) →
        (Instr.indexAt T v (.int k i)).run P w=.ok (.pointer (some ⟨blk,o+i.toNat*ts.length,none⟩)) w:=by
      intro blk o len cap ts hts hv h0 h1;obtain⟨hsz,hpos⟩:=CL hts;obtain⟨ti,hti⟩:=FD (P:=P) (t:=e) (by omega);subst hv;simp[Instr.indexAt,Jl,run_underlying hu,h0,h1,BX hti,Iw,hsz]
    split at h
    · rename_i e' id;obtain⟨⟨eb,l,nb⟩,m1,hrow,h2⟩:=zza h;obtain⟨_,m2,hg,h3⟩:=zza h2;clear h h2;have he:=AG.1 (zzd hg);subst he;cases zzc h3;obtain⟨m3,hrow⟩:=zzf hrow;cases hh:s.getH id with
      |none=>rw[hh]at hrow;trivial
      |some e1 =>
        rw[hh]at hrow;have hrr:=zzc hrow;simp only[Prod.mk.injEq]at hrr;obtain⟨rfl,rfl,rfl⟩:=hrr;have h1:decide (0≤i∧i<((List.length e1.l:Nat):Int))=true:=has _ zzl;have hb:0≤i∧i<((List.length e1.l:Nat):Int):=of_decide_eq_true h1;obtain⟨⟨te,hte,_⟩,hk⟩:=hp;obtain⟨he1,ho⟩:=hk e1 hh
        rcases hs.M.H id e1 hh with⟨t,ts,ht,hts,hrl,hm⟩|hM
        case inr=>exact(hM.noSl (by rw[he1];exact hte)).elim
        rcases ho with⟨blk,cap,hsg,hv⟩|⟨_,hz,_⟩
        · rw[he1]at hts;refine⟨_,run blk 0 _ cap ts hts hv hb.1 hb.2,Ac ⟨hb.1,blk,_,rfl,fun h2 hh2=>?_⟩,fun n hm=>by trivial,rfl⟩
          grind
        omega
    · rename_i e' nw l;obtain⟨_,m2,hg,h3⟩:=zza h;clear h;have hg2:=zzd hg;rw[zzj]at hg2;have he:=AG.1 hg2.1;have hlp:=A7.1 hg2.2;subst he;cases zzc h3;have h1:decide (0≤i∧i<((List.length l:Nat):Int))=true:=has _ zzl;have hb:0≤i∧i<((List.length l:Nat):Int):=of_decide_eq_true h1;obtain⟨t,ht,hrep⟩:=hp;have hrep2:=hrep;cases hrep with
      |ptN h8 h9=>grind
      |pt h8 _ _=>grind
      | @sl _ e2 ts a len cap _ vv ht' hts hl hr hc' hm hv =>
        rw[ht]at ht';cases ht'
        rcases hm with hm|⟨b,off,ha,hb1,hlt,hcell⟩
        · omega
        obtain⟨b,bc⟩:=b;subst ha;refine⟨_,run b off len cap ts hts rfl hb.1 (by omega),Ac ⟨hb.1,hb.2,t,ts,b,off,len,cap,ht,hts,hrep2,by simp⟩,fun n hm=>by trivial,rfl⟩
    · cases zzc h
      simp_all
    trivial
  trivial
theorem v7 {T:TypeId} {p:Val (std E N)} {ix:Operand} {v:Value} {k:IntKind} {i:Int} {as:List Bool} {r:AV (std E N)}
    {fr:List (Nat×Option (HEnt (std E N)))} {m m':Nat} (hp:RelVal P n0 β σ s w p v) (hc:∀k' n,ix=.const (.int k' n)→i=n)
    (h:RM.run s (kD P T p ix i) m=.ok ((as,r,fr),m')) (has:∀b∈as,b=true) :
    ∃z,(Instr.index T v (.int k i)).run P w=.ok z w∧RelAV P n0 β σ s w r z∧(∀n∈r.names,n∈AH p.cs)∧fr=[]:=by
  obtain⟨pa,pc⟩:=p;unfold kD at h;simp only at h
  split at h
  ·
    rename_i x hu;cases zzc h;have hv:v=.string x:=C0 hp;subst hv;have h1:decide (0≤i∧i<((ByteArray.size x:Nat):Int))=true:=has _ zzl;have hb:0≤i∧i<((ByteArray.size x:Nat):Int):=of_decide_eq_true h1;have hlt:i.toNat<ByteArray.size x:=by omega
    refine⟨_,?_,Ac rfl,fun n hm=>by trivial,rfl⟩;have hg:x[i.toNat]?=some x[i.toNat]:=ByteArray.getElem?_lt' x i.toNat hlt;have hdat:x.data.toList.getD i.toNat 0=x[i.toNat]:=by
      have:i.toNat<x.data.toList.length:=by trivial
      simp[List.getD,zzn this];rfl
    simp only[Instr.index,Sem.run_bind,Jl,Result.andThen_ok,run_underlying hu,hb.1,if_true,hg,Sem.run_pure,Qm,hdat]
  ·
    rename_i n e hu;obtain⟨vs,rfl,hr⟩:=PU hp
    split at h
    · rename_i k' c;have hic:=hc _ _ rfl;subst hic
      split at h
      · rename_i r' hd hsl;obtain⟨_,m1,hg,h2⟩:=zza h;clear h;have hag:=zzd hg;cases zzc h2;have hb:0≤i∧i<(n:Int):=of_decide_eq_true hd;obtain⟨e1,e2⟩:=DM hsl;have hrr:=RelCs.take (P.cellsOf e) (RelCs.drop (i.toNat*P.cellsOf e) hr);rw[←e1]at hrr;obtain⟨⟨d,hud⟩,_⟩:=O6 hag;obtain⟨ti,hti⟩:=Cu hud;obtain⟨z,hz,hrel⟩:=pK hrr e2 hag;exact⟨z,by simp[Instr.index,Jl,run_underlying hu,hb.1,hb.2,BX hti,hz],hrel,fun n hm=>Et hsl hm,rfl⟩
      trivial
    split at h
    · trivial
    rename_i n
    split at h
    · rename_i r' hpk;obtain ⟨_,m1,hg,h2⟩:=zza h;clear h;have hag:=zzd hg;cases zzc h2;have h1:decide (0≤i∧i<((n+1:Nat):Int))=true:=has _ zzl;have hb:0≤i∧i<((n+1:Nat):Int):=of_decide_eq_true h1;have hrr:=Zp (P:=P) (n0:=n0) (β:=β) (σ:=σ) (s:=s) (w:=w) (fun k=>(vs.toList.drop (k * P.cellsOf e)).take (P.cellsOf e)) hpk hb.1 (by omega)
        (fun k c hk hc=>by
          have:=RelCs.take (P.cellsOf e) (RelCs.drop (k*P.cellsOf e) hr)
          rwa[←(DM hc).1]at this)
      have e2:r'.length=P.cellsOf e:=bN (fun k c hc=>(DM hc).2) hpk;obtain⟨⟨d,hud⟩,_⟩:=O6 hag;obtain⟨ti,hti⟩:=Cu hud;obtain⟨z,hz,hrel⟩:=pK hrr e2 hag;have hb2:i<(n:Int)+1:=by omega
      refine⟨z,by simp[Instr.index,Jl,run_underlying hu,hb.1,hb2,BX hti,hz],hrel,fun q hm=>?_,rfl⟩;obtain⟨c,hc,hmc⟩:=dN hpk q hm;exact Et hc hmc
    trivial
  trivial
theorem Qe {ctx:List (Nat×Bool)} {x:Option Operand} (h:Tm x=true):x=none∨∃k,x=some (.const (.int k 0)):=by
 unfold Tm at h
 grind
theorem YQ (hs:Sim P n0 nt β σ s a w) {ctx:List (Nat×Bool)} (hf:Facts a ctx) {d i:Int} {x:Option Operand} {m m':Nat} (h:RM.run s (jb (O:=std E N) ctx d x) m=.ok (i,m')) :
    (x=none∧i=d)∨∃o k,x=some o∧a.eval o=.int k i:=by
  cases x with
  |none=>exact .inl ⟨rfl,(zzc h).symm⟩
  |some o=>obtain⟨k,hk⟩:=XN hs hf h;simp_all
theorem L6 {k:IntKind} {i:Int} {y:Nat} {code:BoundsCode} (h0:0≤i) (h1:i≤(y:Int)):(Instr.sliceBound (.int k i) y code).run P w=.ok i.toNat w:=by
 simp[Instr.sliceBound,Jl,h0,h1]
theorem O5 {isSl:Bool} {len cap:Nat} {lo hi:Option Value} {l h:Int} (hlo:(lo=none∧l=0)∨∃ k,lo=some (.int k l)) (hhi:(hi=none∧h=len)∨∃ k,hi=some (.int k h))
    (h0:0≤l) (h1:l≤h) (h2:h≤(len:Int)) (h3:len≤cap):(Instr.sliceBounds isSl len cap lo hi none).run P w=.ok (l.toNat,h.toNat,cap) w:=by
  have e2:((h.toNat:Nat):Int)=h:=by omega
  rcases hhi with⟨rfl,rfl⟩|⟨k2,rfl⟩
  · rcases hlo with⟨rfl,rfl⟩|⟨k1,rfl⟩
    · rfl
    simp[Instr.sliceBounds,L6 h0 h1]
  have hb:=fun code=>L6 (P:=P) (w:=w) (k:=k2) (i:=h) (y:=cap) (code:=code) (by omega) (by omega)
  rcases hlo with⟨rfl,rfl⟩|⟨k1,rfl⟩
  · cases isSl<;>simp[Instr.sliceBounds,hb]
  have hl:=fun code=>L6 (P:=P) (w:=w) (k:=k1) (i:=l) (y:=h.toNat) (code:=code) h0 (by omega)
  cases isSl<;>simp[Instr.sliceBounds,hb,hl]
theorem Rep.sub {St:Blk→Prop} {t:TypeId} {av:Option Addr} {len cap:Nat} {l:Rows} (h:Rep P w St t (.slice av len cap) (.rows l)) {lo hi:Nat} (h1:lo≤hi) (h2:hi≤len) {e:TypeId} {ts:List TypeId}
    (ht:AK P t=.sl e) (hts:AW P e=some ts) :
    Rep P w St t (.slice (if cap=lo then av else av.map (·.add (lo*ts.length))) (hi-lo) (cap-lo)) (.rows ((l.take hi).drop lo)):=by
  cases h with
  | @sl _ e' ts' _ _ _ _ v ht' hts' hl hr hc hm hv =>
    rw[ht]at ht';cases ht';rw[hts]at hts';cases hts';have hlen:((l.take hi).drop lo).length=hi-lo:=by simp;omega
    have hrow:∀i,i<hi-lo→AB ((l.take hi).drop lo) i=AB l (lo+i):=fun i hi'=>by
      simp only[AB,List.getD,List.getElem?_drop,List.getElem?_take]
      grind
    refine .sl (fun i j=>v (lo+i) j) ht hts hlen (fun r hr'=>hr r (List.mem_of_mem_take (List.mem_of_mem_drop hr'))) (by omega) ?_ (fun i j t' hi' hj=>?_)
    · by_cases hz:hi-lo=0
      · omega
      rcases hm with hm|⟨b,off,ha,hb,hlt,hcell⟩
      · omega
      refine .inr ⟨b,off+lo*ts.length,?_,hb,⟨hlt.1,fun hcc=>(hlt.2 hcc).part (by omega) ?_⟩,fun i j hi' hj=>?_⟩
      · have:¬cap=lo:=by omega
        rw[if_neg this,ha];simp[Iw]
      · have h9:(lo+(hi-lo))*ts.length≤len*ts.length:=Nat.mul_le_mul_right _ (by omega)
        grind
      grind
    have:=hv (lo+i) j t' (by omega) hj;unfold AD at this⊢
    simp_all
def FrOK (s:St0 E N) (fr:List (Nat×Option (HEnt (std E N)))):Prop :=
 ∀n v,(n,v)∈fr→∃h,s.getH n=some h∧v=some { h with frozen:=true,dirty:=true }
theorem xy {fr:List (Nat×Option (HEnt (std E N)))}:∀ {l:List (Nat×HEnt (std E N))},(∀ n v,(n,v)∈fr→∃ h,AL s.hp n=some h∧v=some { h with frozen:=true,dirty:=true }) →
    (∀k h',AL l k=some h'→∃h,AL s.hp k=some h∧(h'=h∨h'={ h with frozen:=true,dirty:=true })) →
    ∀k h',AL (BO l fr) k=some h'→∃h,AL s.hp k=some h∧(h'=h∨h'={ h with frozen:=true,dirty:=true }):=by
  induction fr with
  |nil=>intro l _ hl k h' hk;exact hl k h' hk
  |cons x fr ih =>
    intro l hfr hl k h' hk;obtain⟨n,v⟩:=x;simp only[BO]at hk;refine ih (fun n v hm=>hfr n v (zzm _ hm)) (fun k h' hk=>?_) k h' hk;rw[BQ]at hk
    grind
theorem FrOK.get {fr:List (Nat×Option (HEnt (std E N)))} (h:FrOK s fr) {wr:Wr (std E N)} (hw:wr.hs=fr) (k:Nat) (h':HEnt (std E N)) (hk:(s.apply wr).getH k=some h') :
    ∃h,s.getH k=some h∧(h'=h∨h'={ h with frozen:=true,dirty:=true }):=by
  unfold State.apply State.getH at hk;rw[hw]at hk;exact xy h (fun k h' hk=>⟨h',hk,.inl rfl⟩) k h' hk
theorem FrOK.sub {fr:List (Nat×Option (HEnt (std E N)))} (h:FrOK s fr) {wr:Wr (std E N)} (hw:wr.hs=fr) (hb:wr.bs=[]):Sub s (s.apply wr) where
 b n e he:=⟨e,by rw[State.getB_apply0 s wr hb]at he;exact he,rfl⟩
 h n h' hk:=by
  obtain⟨h0,hh,h1⟩:=h.get hw n h' hk
  grind
theorem WT {α:Type} {k:Nat} {v:Option α} {l:List (Nat×α)} {ws:List (Nat×Option α)} (h:∀x∈ws,x.1=k→x.2=v) (hm:∃x∈ws,x.1=k):AL (BO l ws) k=v:=by
 induction ws generalizing l with
 |nil=>simp_all
 |cons y ws ih =>
  obtain⟨n,u⟩:=y;simp only[BO]
  by_cases hex:∃x∈ws,x.1=k
  ·simp_all
  rw[bQ ws _ k (fun x hx he=>hex ⟨x,hx,he⟩),BQ]
  simp_all
theorem uG (m:Mem P n0 β σ s w) {id:Nat} {h:HEnt (std E N)} {v:Value} (hh:s.getH id=some h) (hfz:h.frozen=true) (hsl:∃ t,AK P t=.sl h.e) (ho:qT σ id h.l.length v) :
    ∃t,AK P t=.sl h.e∧Rep P w (StB n0 β σ s h.nw) t v (.rows h.l):=by
  rcases m.H id h hh with⟨t,ts,ht,hts,hrl,hm⟩|hM
  case inr=>exact(hM.noSl hsl.choose_spec).elim
  refine⟨t,ht,?_⟩
  rcases ho with⟨blk,cap,hs,rfl⟩|⟨hs,hz,x,rfl⟩
  · rcases hm with⟨hn,_⟩|⟨blk',cap',cells,el,hs',hheap,hel,hsz,hcap,hnw,u,hu,hrep⟩
    · simp_all
    rw[hs']at hs;cases hs;refine .sl u ht hts rfl hrl hcap (.inr ⟨⟨blk,true⟩,0,rfl,⟨fun hin=>?_,hnw⟩,⟨Ff hheap,fun _=>.of hheap (hel▸wZ ht)⟩,fun i j hi hj=>?_⟩) hrep
    · rcases hin with⟨b,e,he,hb⟩|⟨id',h',cap',hh',hf',hs2⟩
      · exact m.uX b e id h blk cap he hh hb hs'
      have:=m.uH id id' h h' blk cap cap' hh hh' hs' hs2
      simp_all
    rw[Du hheap]
    simp_all
  have hl:h.l=[]:=List.length_eq_zero_iff.1 hz;rw[hl];exact .sl (fun _ _=>undef) ht hts (by simp) (by simp) (Nat.le_refl _) (.inl rfl) (fun i j t' hi=>by omega)
theorem wH (hs:Sim P n0 nt β σ s a w) {ctx:List (Nat×Bool)} (hf:Facts a ctx) {T:TypeId} {c:AC0 E N} {lo hi mx:Option Operand} {v:Value} {as:List Bool} {r:AV (std E N)}
    {fr:List (Nat×Option (HEnt (std E N)))} {m m':Nat} (hp:RelC P n0 β σ s w c v) (h:RM.run s (kO P ctx T c lo hi mx) m=.ok ((as,r,fr),m')) (has:∀b∈as,b=true) :
    ∃z,(Instr.sliceAt T v (lo.map a.eval) (hi.map a.eval) (mx.map a.eval)).run P w=.ok z w∧RelAV P n0 β σ (s.apply { hs:=fr }) w r z∧r.names=[]∧FrOK s fr:=by
  have frn:FrOK s ([]:List (Nat×Option (HEnt (std E N)))):=fun n v hm=>by simp at hm
  have sub0:∀{c:AC0 E N} {z:Value},RelC P n0 β σ s w c z→RelC P n0 β σ (s.apply { hs:=[] }) w c z:=fun {c z} hr =>
    ((frn.sub (wr:={ hs:=[] }) rfl rfl).ext P n0 (fun _=>False) β σ w).relC (fun _ _=>id) hr
  have notarr:∀{d:TypeDesc} {v:Value} {lo hi mx:Option Value},P.underlying T=some d→(∀n e,d≠.array n e)→(Instr.sliceAt T v lo hi mx).run P w=(Instr.slice T v lo hi mx).run P w:=by
    intro d v lo hi mx hu hd;unfold Instr.sliceAt;rw[Sem.run_bind,run_underlying hu,Result.andThen_ok]
    simp_all
  unfold kO at h
  split at h
  ·
    rename_i m0
    split at h
    · rename_i e' e nw l hu h1 h2 h3
      split at h
      · rename_i hee;rw[zzj]at hee;have:=AG.1 hee.1;have hlp:=A7.1 hee.2;subst this;cases zzc h;obtain⟨t,ht,hrep⟩:=hp;cases hrep with
        |ptN h8 h9=>grind
        |pt h8 _ _=>grind
        | @sl _ e2 ts av len cap _ vv ht' hts hl hr hc hm hv =>
          rw[ht]at ht';cases ht';obtain⟨hsz,hpos⟩:=CL hts;have hpos':=hpos;rw[←hsz]at hpos';obtain⟨ti,hti⟩:=FD hpos';simp only[zzj]at h2;have e1:=Qe (ctx:=ctx) h1;have e2:∃k,hi=some (.const (.int k 0)):=by
            rcases Qe (ctx:=ctx) h2.1 with rfl|h
            · simp at h2
            · exact h
          have e3:∃k,(some m0:Option Operand)=some (.const (.int k 0)):=by
            rcases Qe (ctx:=ctx) h3 with h|h
            · cases h
            · exact h
          obtain⟨k2,rfl⟩:=e2;obtain⟨k3,e3⟩:=e3;cases e3;have hb:=fun (k:IntKind) (y:Nat) code=>L6 (P:=P) (w:=w) (k:=k) (i:=0) (y:=y) (code:=code) (by omega) (by omega)
          refine⟨.slice av 0 0,?_,sub0 (jA ⟨t,ts,ht,hts,av,rfl⟩ |> C0) |> Ac,rfl,frn⟩;rw[notarr hu (by simp)]
          rcases e1 with rfl|⟨k1,rfl⟩
          · simp[Instr.slice,run_underlying hu,Instr.sliceBounds,Act.eval,hb,BX hti]
          · simp[Instr.slice,run_underlying hu,Instr.sliceBounds,Act.eval,hb,BX hti]
      trivial
    trivial
  · split at h
    ·
      rename_i hu
      split at h
      case h_2=>trivial
      rename_i x;obtain⟨l,m1,h1,h2⟩:=zza h;obtain⟨u,m2,h3,h4⟩:=zza h2;cases zzc h4;have hv:v=.string x:=hp;subst hv;have hb:decide (0≤(l:Int)∧(l:Int)≤u∧u≤((ByteArray.size x:Nat):Int))=true:=has _ zzl;have hb:=of_decide_eq_true hb;have b1:=YQ hs hf h1;have b2:=YQ hs hf h3;have hsb:=O5 (P:=P) (w:=w) (isSl:=false) (len:=ByteArray.size x) (cap:=ByteArray.size x) (lo:=lo.map a.eval) (hi:=hi.map a.eval) (l:=l) (h:=u)
        (by grind)
        (by grind) hb.1 hb.2.1 hb.2.2 (Nat.le_refl _)
      refine⟨_,?_,Ac (c:=.str _) rfl,rfl,frn⟩;rw[notarr hu (by simp)];simp[Instr.slice,run_underlying hu,hsb]
    ·
      rename_i e' hu;obtain ⟨⟨e,l,nw⟩,m1,hrow,h2⟩:=zza h;obtain ⟨_,m2,hg,h3⟩:=zza h2;obtain ⟨lb,m3,h4,h5⟩:=zza h3;obtain ⟨ub,m4,h6,h7⟩:=zza h5;obtain ⟨lb,rfl⟩:∃ j:Int,j=lb:=⟨lb,rfl⟩;obtain ⟨ub,rfl⟩:∃ j:Int,j=ub:=⟨ub,rfl⟩;have hg2:=zzd hg;rw [zzj] at hg2;have hee:=AG.1 hg2.1;have hlp:=A7.1 hg2.2;have b1:=YQ hs hf h4;have b2:=YQ hs hf h6;have run:∀ (av:Option Addr) (len cap:Nat) (ts:List TypeId),v=.slice av len cap→AW P e'=some ts→l.length=len→len≤cap →
          0≤lb→lb≤ub→ub≤((List.length l:Nat):Int) →
          (Instr.sliceAt T v (lo.map a.eval) (hi.map a.eval) none).run P w =
            .ok (.slice (if cap=Int.toNat lb then av else av.map (·.add (Int.toNat lb*ts.length))) (Int.toNat ub-Int.toNat lb) (cap-Int.toNat lb)) w:=by
        intro av len cap ts hv hts hl hc c1 c2 c3;obtain⟨hsz,hpos⟩:=CL hts;obtain⟨ti,hti⟩:=FD (P:=P) (t:=e') (by omega);subst hv;have hsb:=O5 (P:=P) (w:=w) (isSl:=true) (len:=len) (cap:=cap) (lo:=lo.map a.eval) (hi:=hi.map a.eval) (l:=lb) (h:=ub)
          (by grind)
          (by grind) c1 c2 (by omega) hc
        rw[notarr hu (by simp)];simp[Instr.slice,run_underlying hu,hsb,BX hti,hsz]
      cases c with
      |own e0 id =>
        obtain⟨m5,hrow⟩:=zzf hrow;obtain⟨m6,h8⟩:=zzf h7;cases hh:s.getH id with
        |none=>rw[hh]at hrow;trivial
        |some en =>
          rw[hh]at hrow h8;have hrr:=zzc hrow;simp only[Prod.mk.injEq]at hrr;obtain⟨rfl,rfl,rfl⟩:=hrr;subst hee;have hr8:=zzc h8;simp only[Prod.mk.injEq]at hr8;obtain⟨rfl,rfl,rfl⟩:=hr8;have hb:decide (0≤lb∧lb≤ub∧ub≤((List.length en.l:Nat):Int))=true:=has _ zzl;have hb:=of_decide_eq_true hb;have frk:FrOK s [(id,some { en with frozen:=true,dirty:=true })]:=fun n v hm=>by
            simp_all
          have sub:=frk.sub (wr:={ hs:=[(id,some { en with frozen:=true,dirty:=true })] }) rfl rfl;have hm1:=sub.mem hs.M;have hget:(s.apply { hs:=[(id,some { en with frozen:=true,dirty:=true })] }).getH id=some { en with frozen:=true,dirty:=true }:=by
            unfold State.apply State.getH;simp only[BO,BQ,if_true]
          obtain⟨⟨te,hte,_⟩,hk⟩:=hp;obtain⟨he1,ho⟩:=hk en hh;obtain⟨t,ht,hrep⟩:=uG (h:={ en with frozen:=true,dirty:=true }) hm1 hget rfl ⟨te,by simp_all⟩ ho
          rcases hs.M.H id en hh with⟨t2,ts,ht2,hts,_⟩|hM
          case inr=>exact(hM.noSl (by omega)).elim
          cases hv:v with
          |pointer a =>
            simp_all
          |slice av len cap =>
            rw[hv]at hrep;have hlen:List.length en.l=len:=by cases hrep;assumption
            have hc:len≤cap:=by cases hrep;assumption
            have hsub:=Rep.sub hrep (lo:=Int.toNat lb) (hi:=Int.toNat ub) (by omega) (by omega) ht hts;rw[←hv];exact⟨_,run av len cap ts hv hts hlen hc hb.1 hb.2.1 hb.2.2,Ac ⟨t,ht,hsub⟩,rfl,frk⟩
          |_=>simp_all
      |imm e0 nw0 l0 =>
        replace hrow : RM.run s (match Nat.blt e0 ptB with | true => RM.ret (e0, l0, nw0) | false => RM.fail "no slice") _ = .ok _ := hrow
        split at hrow
        case h_2=>trivial
        have hrr:=zzc hrow;simp only[Prod.mk.injEq]at hrr;obtain⟨rfl,rfl,rfl⟩:=hrr;subst hee;cases zzc h7;have hb:decide (0≤lb∧lb≤ub∧ub≤((List.length l0:Nat):Int))=true:=has _ zzl;have hb:=of_decide_eq_true hb;obtain⟨t,ht,hrep⟩:=hp;have hrep2:=hrep;cases hrep with
        |ptN h8 h9=>grind
        |pt h8 _ _=>grind
        | @sl _ e2 ts av len cap _ vv ht' hts hl hr hc hm hv =>
          rw[ht]at ht';cases ht';have hsub:=Rep.sub hrep2 (lo:=Int.toNat lb) (hi:=Int.toNat ub) (by omega) (by omega) ht hts;exact⟨_,run av len cap ts rfl hts hl hc hb.1 hb.2.1 hb.2.2,Ac (sub0 ⟨t,ht,hsub⟩),rfl,frn⟩
      |nil e0 =>
        have hrr:=zzc hrow;simp only[Prod.mk.injEq]at hrr;obtain⟨rfl,rfl,rfl⟩:=hrr;subst hee;cases zzc h7;have hb:decide (0≤lb∧lb≤ub∧ub≤((List.length ([]:Rows):Nat):Int))=true:=has _ zzl;have hb:=of_decide_eq_true hb;obtain⟨t,ts,ht,hts,av,rfl⟩:=hp;have hrep:Rep P w (StB n0 β σ s true) t (.slice av 0 0) (.rows []):=.sl (fun _ _=>undef) ht hts rfl (by simp) (Nat.le_refl _) (.inl rfl) (fun i j t' hi=>by omega);have hsub:=Rep.sub hrep (lo:=Int.toNat lb) (hi:=Int.toNat ub) (by omega) (by simp_all) ht hts;exact⟨_,run av 0 0 ts rfl hts rfl (Nat.le_refl _) hb.1 hb.2.1 hb.2.2,Ac (sub0 ⟨t,ht,hsub⟩),rfl,frn⟩
      |int k i=>trivial
      |bool b=>trivial
      |str x=>trivial
      |ptr b off=>trivial
      |aptr b off n sz i inner=>trivial
      |eptr id i off=>trivial
      |iptr e nw l i off=>trivial
      |fn f caps=>trivial
      |nilptr=>trivial
      |tail e id i=>trivial
      |mp e id=>trivial
      |any T=>trivial
      |opq=>trivial
    trivial
end
section
variable {E:Env} {N:Nat} {P:Program} {n0:Nz} {nt:Nat} {β:Nat→Option Nat} {σ:Nat→Option (Nat×Nat)} {s:St0 E N} {a:Act} {w:World}
theorem mw (hs:Sim P n0 nt β σ s a w) {ctx:List (Nat×Bool)} (hf:Facts a ctx):∀ {xs:List Operand} {l:List (Cap (std E N))} {m m':Nat},RM.run s (pw P ctx xs) m=.ok (l,m') →
    (xs.map a.eval).length=l.length∧(∀(i:Nat) (c:Cap (std E N)),l[i]?=some c→∃x:Value,(xs.map a.eval)[i]?=some x∧T8 P n0 β σ s w c x)∧∀n,Fresh a s n→n∉Iu l
  | [],l,m,m',h=>by cases zzc h;simp[Iu]
  |x::xs,l,m,m',h=>by
    obtain⟨c,m1,h1,h2⟩:=zza h;obtain⟨hc,_,hn⟩:=Ci hs hf h1;cases c with
    |ptr b off =>
      obtain⟨l1,m2,h3,h4⟩:=zza h2;cases zzc h4;obtain⟨e1,e2,e3⟩:=mw hs hf h3;refine⟨by simp_all,fun i c' hi=>?_,fun n hf hm=>?_⟩
      · cases i with
        |zero=>simp at hi;subst hi;exact⟨_,rfl,hc⟩
        |succ i=>simp_all
      rcases List.mem_cons.1 hm with h|h
      · exact hn n hf (by simp[AC.names,h])
      simp_all
    |_=>trivial
theorem lM (hs:Sim P n0 nt β σ s a w) {ctx:List (Nat×Bool)} (hf:Facts a ctx) {T:TypeId}:∀ {xs:List Operand} {cs:List (AC0 E N)} {m m':Nat},RM.run s (vw P ctx T xs) m=.ok (cs,m') →
    RelCs P n0 β σ s w cs (xs.map a.eval)
  | [],cs,m,m',h=>by cases zzc h;trivial
  |x::xs,cs,m,m',h=>by
    obtain⟨c,m1,h1,h2⟩:=zza h;obtain⟨l,m2,h3,h4⟩:=zza h2;cases zzc h4;exact⟨(Ci hs hf h1).1,lM hs hf h3⟩
theorem lI {lt:Int→Int→Bool} {f:Value→Value→Sem Value} (hfn:∀ (k:IntKind) (x y:Int),f (.int k x) (.int k y)=pure (.int k (cond (lt y x) y x))) :
    ∀{r:List (AC0 E N)} {c m:AC0 E N} {v:Value} {vs:List Value},fK (O:=std E N) lt c r=some m→RelC P n0 β σ s w c v→RelCs P n0 β σ s w r vs →
    ∃z,(vs.foldlM f v).run P w=.ok z w∧RelC P n0 β σ s w m z∧(r≠[]→m.names=[])∧(r=[]→m=c)
  | [],c,m,v,vs,h,hc,hr=>by
    cases vs with
    |cons=>trivial
    |nil =>
      have:m=c:=by cases c<;>(simp only[fK,Option.some.injEq]at h;grind)
      simp_all
  |y::r,c,m,v,vs,h,hc,hr=>by
    cases vs with
    |nil=>trivial
    |cons u vs =>
      cases c with
      |int k x =>
        cases y with
        |int k' y' =>
          simp only[fK]at h
          split at h
          · rename_i hk;have:=He.1 hk;subst this;have hv:v=.int k x:=hc;have hu:u=.int k y':=hr.1;subst hv;subst hu;have hc2:RelC P n0 β σ s w (AC.int (O:=std E N) k (cond (lt y' x) y' x)) (.int k (cond (lt y' x) y' x)):=rfl;obtain⟨z,hz,hm,hn,he⟩:=lI hfn h hc2 hr.2;refine⟨z,?_,hm,fun _=>?_,fun h=>by cases h⟩
            · simp_all
            cases hr':r with
            |nil=>rw[he hr'];rfl
            |cons a b=>simp_all
          cases h
        |_=>trivial
      |_=>simp[fK]at h
theorem wq (hs:Sim P n0 nt β σ s a w) {ctx:List (Nat×Bool)} (hf:Facts a ctx) {ty:TypeId} {n:Nat} {x y:Operand} {as:List Bool} {r:AV (std E N)}
    {fr:List (Nat×Option (HEnt (std E N)))} {m m':Nat} (h:RM.run s (xX P ctx ty n x y) m=.ok ((as,r,fr),m')) :
    ∃c z,a.tmps.getD n undef=.bool c∧z=(if c then a.eval x else a.eval y)∧RelAV P n0 β σ s w r z∧r.names=[]∧fr=[]:=by
  obtain⟨m1,h⟩:=zze h;cases hg:s.getT n with
  |none=>rw[hg]at h;trivial
  |some tv =>
    rw[hg]at h;simp only at h
    split at h
    · rename_i c hin hv;obtain ⟨u,m2,h1,h2⟩:=zza h;obtain ⟨v,m3,h3,h4⟩:=zza h2;have hn:a.tmps.getD n undef=.bool c:=by
        rcases hs.T n _ hg with⟨_,hr⟩|⟨hnf,_⟩
        · rw[hv]at hr;exact C0 hr
        exact(hnf (hf.of_in hin)).elim
      split at h4
      · rename_i cs hag hm;cases zzc h4;have hag':u.agg=v.agg:=by simp_all
        refine⟨c,_,hn,rfl,?_,Mk hm,rfl⟩;cases c
        · have hf2:Facts a ((n,false)::ctx):=fun k b hk=>by
            rcases List.mem_cons.1 hk with e|hk
            · simp_all
            exact hf k b hk
          obtain⟨hr,_⟩:=Mj hs hf2 h3;obtain⟨h5,_,_⟩:=Jk (P:=P) (n0:=n0) (β:=β) (σ:=σ) (s:=s) (w:=w) (vs:=(a.eval y).cells.toList) hm (fun e=>by cases e) (fun _=>hr.1);refine⟨h5,?_⟩;have:=hr.2
          simp_all
        have hf2:Facts a ((n,true)::ctx):=fun k b hk=>by
          rcases List.mem_cons.1 hk with e|hk
          · simp_all
          exact hf k b hk
        obtain⟨hr,_⟩:=Mj hs hf2 h1;obtain⟨h5,_,_⟩:=Jk (P:=P) (n0:=n0) (β:=β) (σ:=σ) (s:=s) (w:=w) (vs:=(a.eval x).cells.toList) hm (fun _=>hr.1) (fun e=>by cases e);exact⟨h5,hr.2⟩
      trivial
    trivial
theorem RelVals.get:∀{cs:List (Val (std E N))} {vs:List Value},RelVals P n0 β σ s w cs vs→∀{i:Nat} {c:Val (std E N)},cs[i]?=some c→∃v,vs[i]?=some v∧RelVal P n0 β σ s w c v
 |c::cs,x::vs,h,0,c',hc=>by simp at hc;subst hc;exact⟨x,rfl,h.1⟩
 |c::cs,x::vs,h,i+1,c',hc=>by
  obtain⟨v,hv,hr⟩:=RelVals.get h.2 (i:=i) (by trivial)
  simp_all
 | [],_,_,i,c',hc=>by simp at hc
 |_::_,[],h,_,_,_=>h.elim
theorem np {cs:List (Val (std E N))} {i:Nat} {c:Val (std E N)} (hc:cs[i]?=some c) {n:Nat} (hn:n∈AH c.cs):n∈B0 cs:=by
 induction cs generalizing i with
 |nil=>simp at hc
 |cons x cs ih =>
  cases i with
  |zero=>simp at hc;subst hc;simp[B0,hn]
  |succ i=>simp only[B0,List.mem_append];grind
theorem Bv {o:Oper} {x:Sem Value} {z:Value} (he:execOp a.eval o=(do pure (.value (←x)))) (hx:x.run P w=.ok z w):(execOp a.eval o).run P w=.ok (.value z) w:=by
 simp_all
theorem qF {St:Blk→Prop} {t e:TypeId} {v:Value} {l:Rows} (hp:V6 P e=true) (ht:AK P t=.sl e) (h:Rep P w St t v (.rows l)) :
    (v=.pointer none∧l=[])∨∃b off t' e' ts cap,v=.pointer (some ⟨b,off,none⟩)∧e=e'+ptB∧AK P t'=.sl e'∧AW P e'=some ts∧Rep P w St t' (.slice (some ⟨b,off,none⟩) 1 cap) (.rows l)∧l.length=1:=by
  unfold V6 at hp;rw[zzj]at hp;cases h with
  |sl u h hts =>
    simp_all
  |ptN h hb=>simp_all
  |pt h h' hr =>
    rw[ht]at h;cases h;have hr2:=hr;cases hr with
    |sl u h2 hts hl hr hc hm hv =>
      grind
theorem ml {e:TypeId} {nw:Bool} {l:Rows} {v:Value} (hp:V6 P e=true) (h:RelC P n0 β σ s w (.imm e nw l) v) (hl:iIn 0 (l.length:Int)=true) :
    RelC P n0 β σ s w (.iptr (e-ptB) nw l 0 0) v∧∃blk o,v=.pointer (some ⟨blk,o,none⟩):=by
  have hl:=of_decide_eq_true hl;obtain⟨t,ht,hrep⟩:=h
  rcases qF hp ht hrep with⟨_,rfl⟩|⟨b,off,t',e',ts,cap,rfl,rfl,h1,h2,h3,h4⟩
  · simp at hl
  have e1:e'+ptB-ptB=e':=Nat.add_sub_cancel _ _;rw[e1];exact⟨⟨Int.le_refl _,hl.2,t',ts,b,off,1,cap,h1,h2,h3,by simp⟩,_,_,rfl⟩
theorem mS {c:AC0 E N} {v:Value} (h:RelC P n0 β σ s w c v) (has:∀b∈(Oe (O:=std E N) P c).1,b=true):RelC P n0 β σ s w (Oe (O:=std E N) P c).2 v∧(Oe (O:=std E N) P c).2.names=c.names:=by
 cases c with
 |imm e nw l =>
  cases hp:V6 P e
  ·have e1:Oe (O:=std E N) P (.imm e nw l)=([],.imm e nw l):=by unfold Oe;simp_all
   simp_all
  have e1:Oe (O:=std E N) P (.imm e nw l)=([iIn 0 (l.length:Int)],.iptr (e-ptB) nw l 0 0):=by unfold Oe;simp_all
  rw[e1]at has⊢;exact⟨(ml hp h (has _ zzl)).1,rfl⟩
 |_=>trivial
theorem zh {op:BinOp} {T:TypeId} {x y:Operand} {p:Val (std E N)} {u v:Value} {c:Bool} (h:ur (O:=std E N) P op T y p=some c) (hp:RelVal P n0 β σ s w p u) (hv:y=.const (.pointer none)→v=.pointer none) :
    (do eqGuard op T x y u v;binOp op T u v:Sem Value).run P w=.ok (.bool c) w:=by
  unfold ur at h
  split at h
  case h_2=>cases h
  rename_i e nw l e' hag hcs hT;obtain⟨pa,pc⟩:=p;simp only at hag hcs;subst hag;subst hcs;have hv:=hv rfl;subst hv;have hu:=C0 hp;obtain⟨t,ht,hrep⟩:=hu;have key:V6 P e=true→e=e'→(Op.equal T u (.pointer none)).run P w=.ok ((l.length:Int)==0) w∧u.oneCell'=true∧u≠.nilIface:=fun h1 h2=>by
    subst h2;have hge:ptB≤e:=by unfold V6 at h1;simp_all
    obtain⟨e2,_,hun,_⟩:=uL hT hge
    rcases qF h1 ht hrep with⟨rfl,rfl⟩|⟨b,off,t',e3,ts,cap,rfl,_,_,_,_,h4⟩
    · exact⟨by unfold Op.equal;rw[show Op.maxDepth=9999+1 from rfl,Op.equalIn];simp[run_underlying hun,Result.andThen],rfl,by simp⟩
    exact⟨by unfold Op.equal;rw[show Op.maxDepth=9999+1 from rfl,Op.equalIn];simp[run_underlying hun,Result.andThen,h4],rfl,by simp⟩
  split at h
  · rename_i hg;rw[zzj]at hg;obtain⟨k1,k2,k3⟩:=key hg.2 (AG.1 hg.1);cases h;refine Af (Cv _ _ _ _ _ _ k2 k3) ?_;simp[binOp,k1]
  · rename_i hg;rw[zzj]at hg;obtain⟨k1,k2,k3⟩:=key hg.2 (AG.1 hg.1);cases h;refine Af (Cv _ _ _ _ _ _ k2 k3) ?_;simp[binOp,k1]
  cases h
theorem xd {op:BinOp} {T:TypeId} {x y:Operand} {p:Val (std E N)} {u v:Value} {c:Bool} (h:qS (O:=std E N) P op T y p=some c) (hp:RelVal P n0 β σ s w p u) (hv:y=.const (.pointer none)→v=.pointer none) :
    (do eqGuard op T x y u v;binOp op T u v:Sem Value).run P w=.ok (.bool c) w:=by
  unfold qS at h
  split at h
  case h_2=>cases h
  rename_i e b off hun hag hcs;obtain⟨pa,pc⟩:=p;simp only at hag hcs;subst hag;subst hcs;have hv:=hv rfl;subst hv;obtain⟨blk,rfl,_⟩:=C0 hp;have key:(Op.equal T (.pointer (some ⟨blk,off,none⟩)) (.pointer none)).run P w=.ok false w:=by
    unfold Op.equal;rw[show Op.maxDepth=9999+1 from rfl,Op.equalIn];simp[run_underlying hun,Result.andThen]
  split at h
  · cases h;refine Af (Cv _ _ _ _ _ _ rfl (by simp)) ?_;simp[binOp,key]
  · cases h;refine Af (Cv _ _ _ _ _ _ rfl (by simp)) ?_;simp[binOp,key]
  cases h
theorem mI {ty:TypeId} {v:AV (std E N)} {z:Value} {as:List Bool} {r:AV (std E N)} (h:qg (O:=std E N) P ty v=some (as,r)) (hr:RelAV P n0 β σ s w v z) (has:∀ b∈as,b=true) :
    RelAV P n0 β σ s w r z∧r.names=[]:=by
  unfold qg at h
  split at h
  case h_2=>cases h
  rename_i e nw l i off
  split at h
  case h_2=>cases h
  rename_i e' hT
  split at h
  case h_2=>cases h
  rename_i hg;rw[zzj]at hg;have he:=AG.1 hg.1;have ho:=AG.1 hg.2;subst he;subst ho;cases h;refine⟨Ac ⟨ty,hT,?_⟩,rfl⟩;obtain⟨h0,h3,t,ts,blk,boff,len,cap,ht,hts,hq,rfl⟩:=C0 hr;obtain⟨i,rfl⟩:∃j:Int,j=i:=⟨i,rfl⟩;have h0:(0:Int)≤i:=h0;have h3:i<((List.length l:Nat):Int):=h3;have hsm:i≤17592186044416:=by
    have:=has _ zzl;simp only[iSm,decide_eq_true_eq]at this;exact this.2.1
  have hw:IntKind.i64.wrap (i+1)=i+1:=by
    unfold IntKind.wrap;simp[IntKind.signed,IntKind.bits];omega
  obtain⟨hlen,hcap⟩:List.length l=len∧len≤cap:=by
    cases hq with
    |sl _ _ _ a _ b=>exact⟨a,b⟩
  have hsub:=Rep.sub hq (lo:=i.toNat) (hi:=i.toNat+1) (by omega) (by omega) ht hts;have e1:(std E N).ag l i ((std E N).o .i64 i ((std E N).lit .i64 1))=(l.take (i.toNat+1)).drop i.toNat:=by
    grind
  rw[e1];rw[if_neg (by omega),Nat.add_sub_cancel_left]at hsub;exact .pt hT ht (by simpa[Iw] using hsub)
theorem xV (hs:Sim P n0 nt β σ s a w) {ctx:List (Nat×Bool)} (hf:Facts a ctx) {o:Oper} {as:List Bool} {r:AV (std E N)}
    {fr:List (Nat×Option (HEnt (std E N)))} {m m':Nat} (h:RM.run s (Z8 P ctx o.type o.op) m=.ok ((as,r,fr),m')) (has:∀b∈as,b=true) :
    ∃z,(execOp a.eval o).run P w=.ok (.value z) w∧RelAV P n0 β σ (s.apply { hs:=fr }) w r z∧(∀n,Fresh a s n→n∉r.names)∧FrOK s fr:=by
  have frn:FrOK s ([]:List (Nat×Option (HEnt (std E N)))):=fun n v hm=>by simp at hm
  have sub0:∀{c:AV (std E N)} {z:Value},RelAV P n0 β σ s w c z→RelAV P n0 β σ (s.apply { hs:=[] }) w c z:=fun {c z} hr =>
    ((frn.sub (wr:={ hs:=[] }) rfl rfl).ext P n0 (fun _=>False) β σ w).relAV (fun _ _=>id) hr
  have one0:∀{c:AC0 E N} {z:Value},RelC P n0 β σ s w c z→RelAV P n0 β σ (s.apply { hs:=[] }) w (one c) z:=fun {c z} hr=>sub0 (Ac hr)
  have nm:∀{c:AC0 E N},c.names=[]→∀n,Fresh a s n→n∉(one c).names:=fun {c} hc n _=>by simp[AV.names,one,AH,hc]
  cases hop:o.op with
  |move x =>
    rw[hop]at h;obtain⟨v,m1,h1,h2⟩:=zza h;obtain⟨hr,hn⟩:=Ve hs hf h1
    split at h2
    · rename_i as' v' hm;cases zzc h2;obtain⟨q1,q2⟩:=mI hm hr has;exact⟨a.eval x,by simp[execOp,hop],sub0 q1,fun n _=>by rw[q2];exact List.not_mem_nil,frn⟩
    cases zzc h2;exact⟨a.eval x,by simp[execOp,hop],sub0 hr,hn,frn⟩
  |assign x =>
    rw[hop]at h;obtain⟨v,m1,h1,h2⟩:=zza h;obtain⟨hr,hn⟩:=Ve hs hf h1
    split at h2
    · rename_i as' v' hm;cases zzc h2;obtain⟨q1,q2⟩:=mI hm hr has;exact⟨a.eval x,by simp[execOp,hop],sub0 q1,fun n _=>by rw[q2];exact List.not_mem_nil,frn⟩
    cases zzc h2;exact⟨a.eval x,by simp[execOp,hop],sub0 hr,hn,frn⟩
  |pick c x y =>
    rw[hop]at h;cases c with
    |tmp n =>
      obtain⟨c,z,h1,h2,h3,h4,rfl⟩:=wq hs hf h;have hc:a.eval (.tmp n)=.bool c:=h1;refine⟨z,?_,sub0 h3,fun n _=>by grind,frn⟩;simp only[execOp,hop,Sem.run_bind,hc,asBool,Sem.run_pure,Result.andThen_ok,h2]
    |const c=>trivial
    |func f=>trivial
    |global g=>trivial
  |build T parts =>
    rw[hop]at h;simp only[Z8]at h
    split at h
    · trivial
    · rename_i z hz
      split at h
      · trivial
      · rename_i hag;obtain⟨i,v,hi,hiz,hzv,hr,hn,ho⟩:=LW (n0:=n0) (β:=β) (σ:=σ) (s:=s) (w:=w) hz;obtain⟨za,zc⟩:=z;simp only at hag;subst hag;obtain⟨vs,rfl,hrz⟩:=PU hr;obtain⟨cs,m1,h1,h2⟩:=zza h;cases zzc h2
        split at h1
        · rename_i fs hu;obtain ⟨_,m2,hg,h3⟩:=zza h1;have hinfo:∀ f∈fs.toList,∃ i,P.info? f.type=some i:=fun f hfm=>by
            have:=List.all_eq_true.1 (zzd hg) f hfm;exact Option.isSome_iff_exists.1 this
          have hmap:(fs.mapM fun f=>do pure (f.offset,←sizeOf f.type):Sem (Array (Nat×Nat))).run P w=.ok (fs.map fun f=>(f.offset,P.cellsOf f.type)) w:=by
            rw[Array.mapM_eq_mapM_toList];have:∀l:List Field,(∀f∈l,∃i,P.info? f.type=some i)→(l.mapM fun f=>do pure (f.offset,←sizeOf f.type):Sem (List (Nat×Nat))).run P w=.ok (l.map fun f=>(f.offset,P.cellsOf f.type)) w:=by
              intro l
              induction l with
              |nil=>intro _;simp
              |cons f l ih =>
                intro hl;obtain⟨i,hi⟩:=hl f zzl;rw[List.mapM_cons];simp only[Sem.run_bind,BX hi,Result.andThen_ok,Sem.run_pure,ih (fun g hg=>hl g (zzm _ hg)),List.map_cons]
            simp only[Sem.run_map,this fs.toList hinfo,Result.andThen_ok];congr 1
            grind
          obtain⟨cells',f1,f2,f3,f4⟩:=Xp hs hf (place:=fun i=>(fs.toList[i]?).map fun (f:Field)=>(f.offset,f.type))
            (place':=((fs.map fun f=>(f.offset,P.cellsOf f.type))[·]?)) (fun i off T hp=>by
              grind) h3 hrz
          refine⟨.agg cells',Bv (x:=Instr.build T (parts.map fun (i,x)=>(i,a.eval x))) (by simp[execOp,hop]) ?_,sub0 ⟨f2,_,rfl⟩,fun n hnf=>f4 n hnf (by grind),frn⟩;have hl:(parts.map fun (i,x)=>(i,a.eval x)).toList=parts.toList.map fun (i,x)=>(i,a.eval x):=by simp
          simp only[Instr.build,Sem.run_bind,hzv,Result.andThen_ok,run_underlying hu,hmap,hl,Value.cells,f1,Sem.run_pure]
        · rename_i n e hu;obtain ⟨_,m2,hg,h3⟩:=zza h1;obtain ⟨i,hi⟩:=FD (A7.1 (zzd hg));obtain ⟨cells',f1,f2,f3,f4⟩:=Xp hs hf (place:=fun i=>some (i * P.cellsOf e,e)) (place':=fun i=>some (i * P.cellsOf e,P.cellsOf e)) (fun i off T hp=>by
              grind) h3 hrz
          refine⟨.agg cells',Bv (x:=Instr.build T (parts.map fun (i,x)=>(i,a.eval x))) (by simp[execOp,hop]) ?_,sub0 ⟨f2,_,rfl⟩,fun n hnf=>f4 n hnf (by grind),frn⟩;have hl:(parts.map fun (i,x)=>(i,a.eval x)).toList=parts.toList.map fun (i,x)=>(i,a.eval x):=by simp
          simp only[Instr.build,Sem.run_bind,hzv,Result.andThen_ok,run_underlying hu,BX hi,hl,Value.cells,f1,Sem.run_pure]
        trivial
  |load T p =>
    rw[hop]at h;obtain⟨c,m1,h1,h2⟩:=zza h;obtain⟨cs,m2,h3,h4⟩:=zza h2;obtain⟨_,m3,h5,h6⟩:=zza h4;have hag:=zzd h5;cases zzc h6;obtain⟨hc,_,_⟩:=Ci hs hf h1;obtain⟨⟨blk,off,vs,hv,hl,hr,hcell⟩,hn⟩:=yD hs.M (mS hc has).1 h3;obtain⟨z,hz,hrel⟩:=SO hr hag hl hcell;refine⟨z,Bv (x:=Instr.loadAt T (a.eval p)) (by simp[execOp,hop]) (by simp[Instr.loadAt,hv,Instr.sureAddr,hz]),sub0 hrel,fun n hn'=>hn n hn',frn⟩
  |nilCheck x =>
    rw[hop]at h;obtain⟨c,m1,h1,h2⟩:=zza h;obtain⟨hc,_,hn⟩:=Ci hs hf h1;have fin:∀c':AC0 E N,c=c'→(∃blk o,a.eval x=.pointer (some ⟨blk,o,none⟩))→∃z,(execOp a.eval o).run P w=.ok (.value z) w∧RelAV P n0 β σ (s.apply { hs:=[] }) w (one c') z∧(∀n,Fresh a s n→n∉(one c').names):=by
      rintro c' rfl ⟨blk,o',hv⟩
      refine⟨a.eval x,by simp[execOp,hop,hv],one0 hc,fun n hf hm=>hn n hf (by simpa[AV.names,one,AH] using hm)⟩
    cases c with
    |ptr b off=>cases zzc h2;obtain⟨z,z1,z2,z3⟩:=fin _ rfl (by obtain⟨blk,hv,_⟩:=hc;simp_all);simp_all
    |eptr id i off=>cases zzc h2;obtain⟨z,z1,z2,z3⟩:=fin _ rfl (by obtain⟨_,blk,o',hv,_⟩:=hc;simp_all);simp_all
    |iptr e nw l i off=>cases zzc h2;obtain⟨z,z1,z2,z3⟩:=fin _ rfl (by obtain⟨_,_,_,_,blk,_,_,_,_,_,_,hv⟩:=hc;simp_all);simp_all
    |aptr b off n sz i inner=>cases zzc h2;obtain⟨z,z1,z2,z3⟩:=fin _ rfl (by obtain⟨_,_,blk,hv,_⟩:=hc;simp_all);simp_all
    |imm e nw l =>
      replace h2 : RM.run s (match V6 P e with | false => RM.fail "nilCheck" | true => okP [(std E N).q ((std E N).lit .i64 0) ((std E N).j l)] (one (.iptr (e - ptB) nw l ((std E N).lit .i64 0) 0))) m1 = _ := h2
      split at h2
      · trivial
      · rename_i hp;cases zzc h2;obtain⟨q1,blk,o',hv⟩:=ml hp hc (has _ zzl);exact⟨a.eval x,by simp[execOp,hop,hv],one0 q1,fun n _ hm=>by trivial,frn⟩
    |_=>trivial
  |binOp op T x y yT =>
    rw[hop]at h;obtain⟨p,m1,h1,h2⟩:=zza h;obtain⟨hp,_⟩:=Mj hs hf h1
    split at h2
    · rename_i c hc;cases zzc h2;exact⟨_,Bv (by simp[execOp,hop]) (zh (x:=x) hc hp (v:=a.eval y) (fun hy=>by rw[hy];rfl)),sub0 (Ac (c:=.bool _) rfl),nm rfl,frn⟩
    split at h2
    · rename_i c hc;cases zzc h2;exact⟨_,Bv (by simp[execOp,hop]) (xd (x:=x) hc hp (v:=a.eval y) (fun hy=>by rw[hy];rfl)),sub0 (Ac (c:=.bool _) rfl),nm rfl,frn⟩
    obtain⟨q,m2,h3,h4⟩:=zza h2;obtain⟨hq,_⟩:=Mj hs hf h3;obtain⟨z,hz,hr,hn,rfl⟩:=zX (yT:=yT) (x:=x) hp hq (fun k n hy=>by rw[hy];rfl) h4 has;exact⟨z,Bv (by simp[execOp,hop]) hz,sub0 hr,fun n _=>by grind,frn⟩
  |unOp op T x =>
    rw[hop]at h;obtain⟨c,m1,h1,h2⟩:=zza h;obtain⟨hc,ho,hnn⟩:=Ci hs hf h1
    split at h2
    · rename_i b;cases zzc h2;have hv:a.eval x=.bool b:=hc;exact⟨.bool !b,Bv (x:=Op.unary .not (a.eval x)) (by simp[execOp,hop]) (by rw[hv];rfl),one0 (c:=.bool _) rfl,nm rfl,frn⟩
    · rename_i k i;cases zzc h2;have hv:a.eval x=.int k i:=hc;exact⟨.int k (k.wrap (0-i)),Bv (x:=Op.unary .neg (a.eval x)) (by simp[execOp,hop]) (by rw[hv];rfl),one0 (c:=.int _ _) rfl,nm rfl,frn⟩
    · rename_i k i;cases zzc h2;have hv:a.eval x=.int k i:=hc;refine⟨.int k (fW 2 k (match k.signed with|true => -1|false=>k.max) i),Bv (x:=Op.unary .xor (a.eval x)) (by simp[execOp,hop]) (by rw[hv];cases k<;>rfl),one0 (c:=.int _ _) rfl,nm rfl,frn⟩
    trivial
  |convert src dst x =>
    rw[hop]at h;obtain⟨c,m1,h1,h2⟩:=zza h;obtain⟨hc,ho,hnn⟩:=Ci hs hf h1;unfold mX at h2
    split at h2
    · trivial
    · rename_i d hu
      split at h2
      · rename_i k k' i hk;cases zzc h2;have hv:a.eval x=.int k' i:=hc;refine⟨.int k (k.wrap i),Bv (x:=Go.convert src dst (a.eval x)) (by simp[execOp,hop]) ?_,one0 (c:=.int _ _) rfl,nm rfl,frn⟩;simp only[Go.convert,Sem.run_bind,run_underlying hu,run_underlying (fC hk),Result.andThen_ok,hv];rfl
      · rename_i x' hk;cases zzc h2;have hv:a.eval x=.string x':=hc;refine⟨.string x',Bv (x:=Go.convert src dst (a.eval x)) (by simp[execOp,hop]) ?_,one0 (c:=.str _) rfl,nm rfl,frn⟩;simp only[Go.convert,Sem.run_bind,run_underlying hu,run_underlying (Xw hk),Result.andThen_ok,hv];rfl
      · rename_i k' i hk;cases zzc h2;have hv:a.eval x=.int k' i:=hc;refine⟨.string (Utf8.encode i),Bv (x:=Go.convert src dst (a.eval x)) (by simp[execOp,hop]) ?_,one0 (c:=.str _) rfl,nm rfl,frn⟩;simp only[Go.convert,Sem.run_bind,run_underlying hu,run_underlying (Xw hk),Result.andThen_ok,hv];rfl
      trivial
  |extract x i =>
    rw[hop]at h;obtain⟨v,m1,h1,h2⟩:=zza h;obtain⟨hr,hn⟩:=Ve hs hf h1;cases v with
    |val v=>trivial
    |tup vs =>
      simp only at h2
      split at h2
      · rename_i v hv;cases zzc h2;obtain⟨us,hu,hrs⟩:=hr;obtain⟨z,hz,hrz⟩:=hrs.get hv;refine⟨z,Bv (x:=Instr.extract (a.eval x) i) (by simp[execOp,hop]) ?_,sub0 hrz,fun n hf hm=>hn n hf (np hv hm),frn⟩;rw[hu];have:us[i]?=some z:=by simp_all
        simp[Instr.extract,this]
      trivial
  |field T x f =>
    rw[hop]at h;obtain⟨v,m1,h1,h2⟩:=zza h;obtain⟨hr,hn⟩:=Mj hs hf h1;obtain⟨va,vc⟩:=v;simp only at h2
    split at h2
    · trivial
    · rename_i fd hfd
      split at h2
      · rename_i cs hsl;obtain⟨_,m2,h3,h4⟩:=zza h2;have hag:=zzd h3;cases zzc h4;obtain⟨us,hu,hrs⟩:=PU hr;obtain⟨z,hz,hrel⟩:=xG hfd hrs hsl hag;refine⟨z,Bv (x:=Instr.field T (a.eval x) f) (by simp[execOp,hop]) (by simp_all),sub0 hrel,fun n hf hm=>hn n hf (Et hsl hm),frn⟩
      trivial
  |fieldAddr T x f =>
    rw[hop]at h;obtain⟨c,m1,h1,h2⟩:=zza h;obtain⟨hc,_,hn⟩:=Ci hs hf h1
    split at h2
    · trivial
    · rename_i fd hfd;obtain⟨_,m2,h3,h4⟩:=zza h2;have hg:=zzd h3
      split at h4
      · rename_i p hp;cases zzc h4;obtain⟨hc2,hnm2⟩:=mS hc has;obtain⟨blk,off,hv,hr,hnm⟩:=jY hp hc2;have hnm:=hnm.trans hnm2;refine⟨_,Bv (x:=Instr.fieldAt T (a.eval x) f) (by simp[execOp,hop]) (by rw[hv];exact tD hfd (by simpa[Bd] using hg)),one0 hr,fun n hf hm=>hn n hf (by simpa[AV.names,one,AH,hnm] using hm),frn⟩
      trivial
  |indexAddr T x ix =>
    rw[hop]at h;obtain⟨c,m1,h1,h2⟩:=zza h;obtain⟨i,m2,h3,h4⟩:=zza h2;obtain⟨hc,_,hn⟩:=Ci hs hf h1;obtain⟨k,hk⟩:=XN hs hf h3;obtain⟨z,hz,hr,hnm,rfl⟩:=lF (k:=k) hs hc (fun k' n hx=>by rw[hx]at hk;cases hk;rfl) h4 has;exact⟨z,Bv (x:=Instr.indexAt T (a.eval x) (a.eval ix)) (by simp[execOp,hop]) (by simp_all),sub0 hr,fun n hf hm=>hn n hf (hnm n hm),frn⟩
  |index T x ix =>
    rw[hop]at h;obtain⟨v,m1,h1,h2⟩:=zza h;obtain⟨i,m2,h3,h4⟩:=zza h2;obtain⟨hc,hn⟩:=Mj hs hf h1;obtain⟨k,hk⟩:=XN hs hf h3;obtain⟨z,hz,hr,hnm,rfl⟩:=v7 (k:=k) hc (fun k' n hx=>by rw[hx]at hk;cases hk;rfl) h4 has;exact⟨z,Bv (x:=Instr.index T (a.eval x) (a.eval ix)) (by simp[execOp,hop]) (by simp_all),sub0 hr,fun n hf hm=>hn n hf (hnm n hm),frn⟩
  |slice T x lo hi mx =>
    rw[hop]at h;obtain⟨c,m1,h1,h2⟩:=zza h;obtain⟨hc,_,hn⟩:=Ci hs hf h1;obtain⟨z,hz,hr,hnm,hfr⟩:=wH hs hf hc h2 has;exact⟨z,Bv (by simp[execOp,hop]) hz,hr,fun n _=>by simp_all,hfr⟩
  |makeFunc fn first caps =>
    rw[hop]at h;cases fn with
    |func f =>
      simp only[Z8]at h
      split at h
      · rename_i hfirst;obtain⟨l,m1,h1,h2⟩:=zza h;cases zzc h2;obtain⟨e1,e2,e3⟩:=mw hs hf h1;have hf0:first=#[]:=Array.toList_eq_nil_iff.1 hfirst
        refine⟨.func (.func f) #[] (caps.map a.eval),Bv (x:=Instr.makeFunc (.func f) (first.map a.eval) (caps.map a.eval)) (by simp[execOp,hop]) (by subst hf0;simp[Instr.makeFunc]),one0 ⟨caps.toList.map a.eval,?_,e1,e2⟩,fun n hf hm=>e3 n hf (by simpa[AV.names,one,AH,AC.names] using hm),frn⟩;congr 1
        grind
      trivial
    |_=>trivial
  |call c =>
    rw[hop]at h;obtain⟨callee,args,argTypes⟩:=c;cases callee with
    |value f=>trivial
    |invoke x y=>trivial
    |builtin b =>
      have hex:∀ (x:Sem Value),builtin b argTypes o.type (args.map fun | .const _=>true | _=>false) (args.map a.eval)=(do pure (.value (← x))) →
          execOp a.eval o=(do pure (.value (←x))):=by
        intro x hx;simp only[execOp,hop,resolve];trivial
      cases b with
      |len =>
        simp only[Z8]at h
        split at h
        · rename_i x T ha hT;have ha':args=#[x]:=by grind
          have hT':argTypes=#[T]:=by grind
          subst ha';subst hT'
          split at h
          · rename_i n e hu;cases zzc h;refine⟨goInt n,Bv (hex (Builtin.len_ #[T] o.type #[a.eval x]) (by simp[builtin])) ?_,one0 (c:=.int _ _) rfl,nm rfl,frn⟩;simp[Builtin.len_,run_underlying hu]
          · rename_i hu;obtain⟨c,m1,h1,h2⟩:=zza h;obtain⟨hc,_,_⟩:=Ci hs hf h1;cases c with
            |str y =>
              cases zzc h2;have hv:a.eval x=.string y:=hc;refine⟨goInt (ByteArray.size y),Bv (hex (Builtin.len_ #[T] o.type #[a.eval x]) (by simp[builtin])) ?_,one0 (c:=.int _ _) rfl,nm rfl,frn⟩;simp[Builtin.len_,run_underlying hu,hv]
            |_=>trivial
          · rename_i e hu;obtain ⟨c,m1,h1,h2⟩:=zza h;obtain ⟨⟨e',l,nb⟩,m2,h3,h4⟩:=zza h2;cases zzc h4;obtain ⟨hc,_,_⟩:=Ci hs hf h1;have key:∃ av cap,a.eval x=.slice av (List.length l) cap:=by
              cases c with
              |nil e0 =>
                have hrr:=zzc h3;simp only[Prod.mk.injEq]at hrr;obtain⟨_,rfl,_⟩:=hrr;obtain⟨t,ts,ht,hts,av,hv⟩:=hc
                simp_all
              |imm e0 nw0 l0 =>
                replace h3 : RM.run s (match Nat.blt e0 ptB with | true => RM.ret (e0, l0, nw0) | false => RM.fail "no slice") _ = .ok _ := h3
                split at h3
                case h_2=>trivial
                rename_i hlp;have hlp:=A7.1 hlp;have hrr:=zzc h3;simp only[Prod.mk.injEq]at hrr;obtain⟨_,rfl,_⟩:=hrr;obtain⟨t,ht,hrep⟩:=hc;generalize a.eval x=vv at hrep;cases hrep with
                |ptN h8 h9=>grind
                |pt h8 _ _=>grind
                | @sl _ e2 ts av len cap _ vv ht' hts hl hr hc hm hv=>simp_all
              |own e0 id =>
                obtain⟨m5,h3⟩:=zzf h3;cases hh:s.getH id with
                |none=>rw[hh]at h3;trivial
                |some en =>
                  rw[hh]at h3;have hrr:=zzc h3;simp only[Prod.mk.injEq]at hrr;obtain⟨_,rfl,_⟩:=hrr;obtain⟨_,hk⟩:=hc;obtain⟨_,ho⟩:=hk en hh
                  rcases ho with⟨blk,cap,_,hv⟩|⟨_,hz,av,hv⟩
                  · simp_all
                  simp_all
              |_=>trivial
            obtain⟨av,cap,hv⟩:=key;refine⟨goInt (List.length l),Bv (hex (Builtin.len_ #[T] o.type #[a.eval x]) (by simp[builtin])) ?_,one0 (c:=.int _ _) rfl,nm rfl,frn⟩;simp[Builtin.len_,run_underlying hu,hv]
          trivial
        trivial
      |min =>
        obtain⟨cs,m1,h1,h2⟩:=zza h;have hcs:=lM hs hf h1;have hl:(args.map a.eval).toList=args.toList.map a.eval:=by simp
        match cs,h2,hcs with
        | [],h2,_=>trivial
        | [_],h2,_=>trivial
        |c::c2::r,h2,hcs =>
          simp only at h2
          split at h2
          · rename_i mm hmm;cases zzc h2;cases hxs:args.toList.map a.eval with
            |nil=>rw[hxs]at hcs;trivial
            |cons v vs =>
              rw[hxs]at hcs;obtain⟨z,hz,hr,hn1,hn2⟩:=lI (P:=P) (n0:=n0) (β:=β) (σ:=σ) (s:=s) (w:=w) (f:=Builtin.min2) (fun k x y=>by simp[Builtin.min2,iLt,Bool.cond_decide]) hmm hcs.1 hcs.2;refine⟨z,Bv (hex (Builtin.min_ argTypes o.type (args.map a.eval)) rfl) ?_,one0 hr,fun n hnf hm=>?_,frn⟩
              · simp only[Builtin.min_,hl,hxs];exact hz
              simp_all
          trivial
      |max =>
        obtain⟨cs,m1,h1,h2⟩:=zza h;have hcs:=lM hs hf h1;have hl:(args.map a.eval).toList=args.toList.map a.eval:=by simp
        match cs,h2,hcs with
        | [],h2,_=>trivial
        | [_],h2,_=>trivial
        |c::c2::r,h2,hcs =>
          simp only at h2
          split at h2
          · rename_i mm hmm;cases zzc h2;cases hxs:args.toList.map a.eval with
            |nil=>rw[hxs]at hcs;trivial
            |cons v vs =>
              rw[hxs]at hcs;obtain⟨z,hz,hr,hn1,hn2⟩:=lI (P:=P) (n0:=n0) (β:=β) (σ:=σ) (s:=s) (w:=w) (f:=Builtin.max2) (lt:=fun a b=>iLt b a) (fun k x y=>by simp[Builtin.max2,iLt,Bool.cond_decide]) hmm hcs.1 hcs.2;refine⟨z,Bv (hex (Builtin.max_ argTypes o.type (args.map a.eval)) rfl) ?_,one0 hr,fun n hnf hm=>?_,frn⟩
              · simp only[Builtin.max_,hl,hxs];exact hz
              simp_all
          trivial
      |_=>trivial
  |_=>rw[hop]at h;trivial
end
def upd {α:Type} (f:Nat→Option α) (k:Nat) (v:Option α):Nat→Option α:=fun n=>if n=k then v else f n
section
variable {E:Env} {N:Nat} {P:Program} {n0:Nz} {nt:Nat} {β:Nat→Option Nat} {σ:Nat→Option (Nat×Nat)} {s s':St0 E N} {a:Act} {w w':World}
theorem BE {α:Type} (f:Nat→Option α) (k:Nat) (v:Option α):upd f k v k=v:=by simp[upd]
theorem BK {α:Type} (f:Nat→Option α) {k n:Nat} (v:Option α) (h:n≠k):upd f k v n=f n:=by simp[upd,h]
structure Grow (w w':World):Prop where
 os:w'.os=w.os
 tape:w'.tape=w.tape
 output:w'.output=w.output
 size:w.heap.size≤w'.heap.size
 old:∀b,b<w.heap.size→w'.heap[b]?=w.heap[b]?
theorem Grow.refl (w:World):Grow w w:=⟨rfl,rfl,rfl,Nat.le_refl _,fun _ _=>rfl⟩
theorem Grow.alloc (w:World) (o:Obj):Grow w (w.alloc o):=⟨rfl,rfl,rfl,by simp,fun b hb=>by
 show(w.heap.push o)[b]?=_
 grind⟩
theorem Grow.drew (w:World):Grow w w.drew:=⟨rfl,rfl,rfl,Nat.le_refl _,fun _ _=>rfl⟩
theorem Grow.trans {w1 w2 w3:World} (h:Grow w1 w2) (k:Grow w2 w3):Grow w1 w3 :=
 ⟨k.os.trans h.os,k.tape.trans h.tape,k.output.trans h.output,Nat.le_trans h.size k.size,fun b hb=>(k.old b (Nat.lt_of_lt_of_le hb h.size)).trans (h.old b hb)⟩
theorem Grow.ext (g:Grow w w') (P:Program) (n0:Nz) (new:Nat→Prop) (β:Nat→Option Nat) (σ:Nat→Option (Nat×Nat)) (s:St0 E N):Ext P n0 new β σ s w β σ s w' :=
 ⟨g.os,g.tape,g.output,g.size,fun b hb _=>.inl (g.old b hb),fun _ h=>.inl h,fun b e h _=>⟨⟨e,h⟩,rfl⟩,fun id h hh _=>⟨h,hh,rfl,rfl,fun _=>rfl⟩⟩
theorem M6 (w:World) (o:Obj):(w.alloc o).heap[w.heap.size]?=some o:=by
 show(w.heap.push o)[w.heap.size]?=some o;simp
theorem AA8 (m:Mem P n0 β σ s w) {id:Nat} (hf:Fresh a s id) {cs:List (AC0 E N)} {vs:Array Value} (hr:RelCs P n0 β σ s w cs vs.toList)
    (hcn:id∉AH cs) (T:TypeId) (hbh:BH w.heap.size vs T cs) {wr:Wr (std E N)} (hb:wr.bs=[(id,some { cs,dirty:=true })]) (hh:wr.hs=[]) :
    Mem P n0 (upd β id (some w.heap.size)) σ (s.apply wr) (w.alloc (.cells vs T)) ∧
      Ext P n0 (·=id) β σ s w (upd β id (some w.heap.size)) σ (s.apply wr) (w.alloc (.cells vs T)):=by
  have gB:=fun n=>State.getB_apply1 s id (some { cs,dirty:=true }) wr hb n
  have gH:=fun n=>State.getH_apply0 s wr hh n
  have old:∀n e,s.getB n=some e→n≠id:=fun n e he h=>((hf.b n e he).1 h.symm)
  have hltB:∀n e blk,s.getB n=some e→β n=some blk→blk<w.heap.size:=fun n e blk he hb=>by
    obtain⟨blk',cells,el,hb',hheap,_⟩:=m.B n e he
    grind
  have hltH:∀n e blk cap,s.getH n=some e→σ n=some (blk,cap)→blk<w.heap.size:=fun n e blk cap he hb=>by
    rcases m.H n e he with⟨t,ts,_,_,_,hm⟩|hM
    case inr=>obtain⟨⟨o,ho⟩,_⟩:=hM.blk hb;grind
    grind
  have x:Ext P n0 (·=id) β σ s w (upd β id (some w.heap.size)) σ (s.apply wr) (w.alloc (.cells vs T)):=by
    have g:=Grow.alloc w (.cells vs T);refine⟨g.os,g.tape,g.output,g.size,fun b hb _=>.inl (g.old b hb),fun b hb=>?_,fun b e he hn=>?_,fun n e he hn=>?_⟩
    · rcases hb with⟨n,e,he,hb⟩|⟨n,e,cap,he,hfz,hb⟩
      · rw[gB]at he
        by_cases hid:n=id
        · rw[hid,BE]at hb;simp_all
        rw[if_neg hid]at he;rw[BK _ _ hid]at hb;exact .inl (.inl ⟨n,e,he,hb⟩)
      rw[gH]at he;exact .inl (.inr ⟨n,e,cap,he,hfz,hb⟩)
    · rw[gB,if_neg hn]at he;exact⟨⟨e,he⟩,BK _ _ hn⟩
    simp_all
  have hnew:∀n,n∈AH cs→¬n=id:=fun n hn h=>hcn (h▸hn)
  refine⟨⟨fun n e he=>?_,fun n e he=>?_,fun b b' e e' blk h h' hb hb'=>?_,fun i i' e e' blk cap cap' h h' hi hi'=>?_,fun b e i h blk cap hb hi h1 h2=>?_⟩,x⟩
  · rw[gB]at he
    by_cases hid:n=id
    · rw[if_pos hid]at he;cases he;exact⟨w.heap.size,vs,T,by rw[hid,BE],M6 w _,x.relCs hnew hr,hbh⟩
    rw[if_neg hid]at he;obtain⟨blk,cells,el,hb,hheap,hrel,hbh⟩:=m.B n e he;exact⟨blk,cells,el,by rw[BK _ _ hid];exact hb,((Grow.alloc w (.cells vs T)).old blk (Ff hheap)).trans hheap,
      x.relCs (fun k hk h=>(hf.b n e he).2 (h▸hk)) hrel,hbh⟩
  · rw[gH]at he
    rcases m.H n e he with⟨t,ts,ht,hts,hrl,hm⟩|hM
    case inr=>exact .inr (hM.view rfl rfl rfl (fun blk cap hb=>(Grow.alloc w (.cells vs T)).old blk (hltH n e blk cap he hb)) (fun _ _ _ ho=>ho))
    refine .inl ⟨t,ts,ht,hts,hrl,?_⟩
    rcases hm with hm|⟨blk,cap,cells,el,ha,hheap,hel,hc,hd,hnw,v,hv,hrep⟩
    · grind
    exact .inr ⟨blk,cap,cells,el,ha,((Grow.alloc w (.cells vs T)).old blk (Ff hheap)).trans hheap,hel,hc,hd,hnw,v,hv,fun i j t' hi hj=>x.rep (hrep i j t' hi hj)⟩
  · rw[gB]at h h'
    by_cases h1:b=id<;>by_cases h2:b'=id
    · rw[h1,h2]
    · rw[h1,BE]at hb;cases hb;rw[if_neg h2]at h';rw[BK _ _ h2]at hb'
      grind
    · rw[h2,BE]at hb';cases hb';rw[if_neg h1]at h;rw[BK _ _ h1]at hb
      grind
    rw[if_neg h1]at h;rw[if_neg h2]at h';rw[BK _ _ h1]at hb;rw[BK _ _ h2]at hb';exact m.uB b b' e e' blk h h' hb hb'
  · rw[gH]at h h';exact m.uH i i' e e' blk cap cap' h h' hi hi'
  rw[gB]at hb;rw[gH]at hi
  by_cases h3:b=id
  · rw[h3,BE]at h1;grind
  rw[if_neg h3]at hb;rw[BK _ _ h3]at h1;exact m.uX b e i h blk cap hb hi h1 h2
theorem Mem.ltB (m:Mem P n0 β σ s w) {n:Nat} {e:BEnt (std E N)} {blk:Nat} (he:s.getB n=some e) (hb:β n=some blk):blk<w.heap.size:=by
 obtain⟨blk',cells,el,hb',hheap,_⟩:=m.B n e he
 grind
theorem Mem.ltH (m:Mem P n0 β σ s w) {n:Nat} {e:HEnt (std E N)} {blk cap:Nat} (he:s.getH n=some e) (hb:σ n=some (blk,cap)):blk<w.heap.size:=by
 rcases m.H n e he with⟨t,ts,_,_,_,hm⟩|hM
 case inr=>obtain⟨⟨o,ho⟩,_⟩:=hM.blk hb;grind
 grind
theorem zq {σ':Nat→Option (Nat×Nat)} {new:Nat→Prop} {id:Nat} (m:Mem P n0 β σ s w) (x:Ext P n0 new β σ s w β σ' s' w')
    (hB:∀n e',s'.getB n=some e'→∃e,s.getB n=some e∧yd P n0 β σ' s' w' n e')
    (hH:∀n h',n≠id→s'.getH n=some h'→∃h,s.getH n=some h∧h'.e=h.e∧h'.l=h.l∧h'.nw=h.nw∧(h'.frozen=false→h.frozen=false)∧σ' n=σ n)
    (hHw:∀n h blk cap,n≠id→s'.getH n=some h→σ n=some (blk,cap)→w'.heap[blk]?=w.heap[blk]?)
    (hid:∀h,s'.getH id=some h→RelH P n0 β σ' s' w' id h)
    (hun:∀blk cap,σ' id=some (blk,cap)→(∀n e,s'.getB n=some e→β n≠some blk)∧(∀n h cap',n≠id→s'.getH n=some h→σ n≠some (blk,cap'))) :
    Mem P n0 β σ' s' w' where
  B n e he:=by
    simp_all
  H n h hh:=by
    by_cases hni:n=id
    · simp_all
    obtain⟨h0,hh0,h1,h2,h3,h4,h5⟩:=hH n h hni hh
    rcases m.H n h0 hh0 with⟨t,ts,ht,hts,hrl,hm⟩|hM
    case inr=>exact .inr (hM.view h1 h2 h5 (fun blk cap hb=>hHw n h blk cap hni hh hb) (fun _ _ _ ho=>by rw[h3];exact ho))
    refine .inl ⟨t,ts,by simp_all,by simp_all,by simp_all,?_⟩
    rcases hm with⟨ha,hb⟩|⟨blk,cap,cells,el,ha,hheap,hel,hc,hd,hnw,v,hv,hrep⟩
    · simp_all
    refine .inr ⟨blk,cap,cells,el,by simp_all,(hHw n h blk cap hni hh ha).trans hheap,by simp_all,hc,by simp_all,by simp_all,v,by simp_all,fun i j t' hi hj=>?_⟩;rw[h2]at hi⊢;rw[h3];exact x.rep (hrep i j t' hi hj)
  uB b b' e e' blk h h' hb hb':=by
    obtain⟨e0,h0,_⟩:=hB b e h;obtain⟨e1,h1,_⟩:=hB b' e' h';exact m.uB b b' e0 e1 blk h0 h1 hb hb'
  uH i i' e e' blk cap cap' h h' hi hi':=by
    by_cases h1:i=id<;>by_cases h2:i'=id
    · rw[h1,h2]
    · grind
    · grind
    obtain⟨h0,hh0,_,_,_,_,h5⟩:=hH i e h1 h;obtain⟨h0',hh0',_,_,_,_,h5'⟩:=hH i' e' h2 h';rw[h5]at hi;rw[h5']at hi';exact m.uH i i' h0 h0' blk cap cap' hh0 hh0' hi hi'
  uX b e i h blk cap hb hi h1 h2:=by
    obtain⟨e0,h0,_⟩:=hB b e hb
    by_cases h3:i=id
    · simp_all
    obtain⟨h4,hh4,_,_,_,_,h5⟩:=hH i h h3 hi;rw[h5]at h2;exact m.uX b e0 i h4 blk cap h0 hh4 h1 h2
theorem S7 {σ':Nat→Option (Nat×Nat)} {new:Nat→Prop} {id:Nat} (m:Mem P n0 β σ s w) (x:Ext P n0 new β σ s w β σ' s' w')
    (hB:∀n e',s'.getB n=some e'→∃e,s.getB n=some e∧e'.cs=e.cs∧∀k∈AH e.cs,¬new k)
    (hBw:∀n e blk,s'.getB n=some e→β n=some blk→w'.heap[blk]?=w.heap[blk]?)
    (hH:∀n h',n≠id→s'.getH n=some h'→∃h,s.getH n=some h∧h'.e=h.e∧h'.l=h.l∧h'.nw=h.nw∧(h'.frozen=false→h.frozen=false)∧σ' n=σ n)
    (hHw:∀n h blk cap,n≠id→s'.getH n=some h→σ n=some (blk,cap)→w'.heap[blk]?=w.heap[blk]?)
    (hid:∀h,s'.getH id=some h→RelH P n0 β σ' s' w' id h)
    (hun:∀blk cap,σ' id=some (blk,cap)→(∀n e,s'.getB n=some e→β n≠some blk)∧(∀n h cap',n≠id→s'.getH n=some h→σ n≠some (blk,cap'))) :
    Mem P n0 β σ' s' w':=by
  refine zq (id:=id) m x (fun n e he=>?_) hH hHw hid hun;obtain⟨e0,h0,hc,hn⟩:=hB n e he;obtain⟨blk,cells,el,hb,hheap,hrel,hbh⟩:=m.B n e0 h0;exact⟨e0,h0,blk,cells,el,hb,(hBw n e blk he hb).trans hheap,x.relCs (by simp_all) (by simp_all),by simp_all⟩
theorem Mem.grow (m:Mem P n0 β σ s w) (g:Grow w w'):Mem P n0 β σ s w' where
 B n e he:=by
  obtain⟨blk,cells,el,hb,hheap,hrel,hbh⟩:=m.B n e he;exact⟨blk,cells,el,hb,(g.old blk (Ff hheap)).trans hheap,(g.ext P n0 (fun _=>False) β σ s).relCs (fun _ _=>id) hrel,hbh⟩
 H n h hh:=by
  rcases m.H n h hh with⟨t,ts,ht,hts,hrl,hm⟩|hM
  case inr=>exact .inr (hM.view rfl rfl rfl (fun blk cap hb=>g.old blk (m.ltH hh hb)) (fun _ _ _ ho=>ho))
  refine .inl ⟨t,ts,ht,hts,hrl,?_⟩
  rcases hm with hm|⟨blk,cap,cells,el,ha,hheap,hel,hc,hd,hnw,v,hv,hrep⟩
  ·grind
  exact .inr ⟨blk,cap,cells,el,ha,(g.old blk (Ff hheap)).trans hheap,hel,hc,hd,hnw,v,hv,fun i j t' hi hj=>(g.ext P n0 (fun _=>False) β σ s).rep (hrep i j t' hi hj)⟩
 uB:=m.uB
 uH:=m.uH
 uX:=m.uX
structure Tidy (a:Act) (new:Nat→Prop) (s s':St0 E N):Prop where
 fresh:∀n,Fresh a s n→¬new n→Fresh a s' n
 cleanB:∀n e,s'.getB n=some e→e.dirty=false→s.getB n=some e
 cleanH:∀n e,s'.getH n=some e→e.dirty=false→s.getH n=some e
def PreOK (s:St0 E N) (fr:List (Nat×Option (HEnt (std E N)))):Prop :=
 ∀n v,(n,v)∈fr→v=none∨∃h,s.getH n=some h∧v=some { h with frozen:=true,dirty:=true }
theorem FrOK.pre {fr:List (Nat×Option (HEnt (std E N)))} (h:FrOK s fr):PreOK s fr:=fun n v hm=>.inr (h n v hm)
theorem ut {fr:List (Nat×Option (HEnt (std E N)))}:∀ {l:List (Nat×HEnt (std E N))},(∀ n v,(n,v)∈fr→v=none∨∃ h,AL s.hp n=some h∧v=some { h with frozen:=true,dirty:=true }) →
    (∀k h',AL l k=some h'→∃h,AL s.hp k=some h∧(h'=h∨h'={ h with frozen:=true,dirty:=true })) →
    ∀k h',AL (BO l fr) k=some h'→∃h,AL s.hp k=some h∧(h'=h∨h'={ h with frozen:=true,dirty:=true }):=by
  induction fr with
  |nil=>intro l _ hl k h' hk;exact hl k h' hk
  |cons x fr ih =>
    intro l hfr hl k h' hk;obtain⟨n,v⟩:=x;simp only[BO]at hk;refine ih (fun n v hm=>hfr n v (zzm _ hm)) (fun k h' hk=>?_) k h' hk;rw[BQ]at hk
    grind
theorem PreOK.get {fr:List (Nat×Option (HEnt (std E N)))} (h:PreOK s fr) {wr:Wr (std E N)} (hw:wr.hs=fr) (k:Nat) (h':HEnt (std E N)) (hk:(s.apply wr).getH k=some h') :
    ∃h,s.getH k=some h∧(h'=h∨h'={ h with frozen:=true,dirty:=true }):=by
  unfold State.apply State.getH at hk;rw[hw]at hk;exact ut h (fun k h' hk=>⟨h',hk,.inl rfl⟩) k h' hk
theorem PreOK.sub {fr:List (Nat×Option (HEnt (std E N)))} (h:PreOK s fr) {wr:Wr (std E N)} (hw:wr.hs=fr) (hb:wr.bs=[]):Sub s (s.apply wr) where
 b n e he:=⟨e,by rw[State.getB_apply0 s wr hb]at he;exact he,rfl⟩
 h n h' hk:=by
  obtain⟨h0,hh,h1⟩:=h.get hw n h' hk
  grind
theorem kV (m:Mem P n0 β σ s w) {id:Nat} (hf:Fresh a s id) {fr:List (Nat×Option (HEnt (std E N)))} (hfr:PreOK s fr) {h:HEnt (std E N)} {wr:Wr (std E N)}
    (ht0:wr.ts=[]) (hb:wr.bs=[]) (hh:wr.hs=fr++[(id,some h)]) (hd:h.dirty=true) (hz:h.frozen=false) {w1:World} (g:Grow w w1) {cells:Array Value} {cap:Nat} {t:TypeId} {ts:List TypeId}
    (ht:AK P t=.sl h.e) (hts:AW P h.e=some ts) (hrl:∀r∈h.l,r.length=ts.length) (hsz:cells.size=cap*ts.length) (hcap:h.l.length≤cap) (hn0:n0.n≤w.heap.size)
    (v:Nat→Nat→Value) (hv:∀i j,i<h.l.length→j<ts.length→cells[i*ts.length+j]?=some (v i j))
    (hrep:∀i j t',i<h.l.length→ts[j]?=some t'→Rep P w (StB n0 β σ (s.apply { hs:=fr }) h.nw) t' (v i j) (AD h.l i j)) :
    Mem P n0 β (upd σ id (some (w1.heap.size,cap))) (s.apply wr) (w1.alloc (.cells cells h.e)) ∧
      Ext P n0 (·=id) β σ s w β (upd σ id (some (w1.heap.size,cap))) (s.apply wr) (w1.alloc (.cells cells h.e))∧Tidy a (·=id) s (s.apply wr) ∧
      (s.apply wr).getH id=some h:=by
  have gB:=fun n=>State.getB_apply0 s wr hb n
  have gs:∀n,(s.apply wr).getH n=if n=id then some h else(s.apply { hs:=fr }).getH n:=fun n=>by
    unfold State.apply State.getH;simp only[hh,FC,BO];exact BQ _ _ _ _
  have old:∀n e,s.getH n=some e→n≠id:=fun n e he h=>(hf.h n e he h.symm)
  have fget:∀n h',n≠id→(s.apply wr).getH n=some h'→∃h0,s.getH n=some h0∧(h'=h0∨h'={ h0 with frozen:=true,dirty:=true }):=fun n h' hn he=>by
    rw[gs,if_neg hn]at he;exact hfr.get rfl n h' he
  have gg:=g.trans (Grow.alloc w1 (.cells cells h.e));have x:Ext P n0 (·=id) β σ s w β (upd σ id (some (w1.heap.size,cap))) (s.apply wr) (w1.alloc (.cells cells h.e)):=by
    refine⟨gg.os,gg.tape,gg.output,gg.size,fun b hb _=>.inl (gg.old b hb),fun b hb=>?_,fun b e he hn=>?_,fun n e he hn=>?_⟩
    · rcases hb with⟨n,e,he,hb⟩|⟨n,e,cap',he,hfz,hb⟩
      · rw[gB]at he;exact .inl (.inl ⟨n,e,he,hb⟩)
      by_cases hid:n=id
      · rw[hid,BE]at hb;cases hb;exact .inr g.size
      obtain⟨h0,hh0,h1⟩:=fget n e hid he;rw[BK _ _ hid]at hb
      rcases h1 with rfl|rfl
      · exact .inl (.inr ⟨n,e,cap',hh0,hfz,hb⟩)
      grind
    · simp_all
    obtain⟨h0,hh0,h1⟩:=fget n e hn he;refine⟨h0,hh0,BK _ _ hn,?_⟩
    grind
  have hget:(s.apply wr).getH id=some h:=by simp_all
  refine⟨S7 (id:=id) m x (fun n e he=>?_) (fun n e blk he hb=>?_) (fun n h' hn he=>?_) (fun n h' blk cap' hn he hs=>?_) (fun h' he=>?_) (fun blk cap' hs=>?_),x,⟨fun n hfn hn=>?_,fun n e he hd'=>?_,fun n e he hd'=>?_⟩,hget⟩
  · rw[gB]at he;exact⟨e,he,rfl,fun k hk h=>(hf.b n e he).2 (h▸hk)⟩
  · rw[gB]at he;exact gg.old blk (m.ltB he hb)
  · obtain⟨h0,hh0,h1⟩:=fget n h' hn he;refine⟨h0,hh0,?_⟩
    rcases h1 with rfl|rfl
    · exact⟨rfl,rfl,rfl,fun h=>h,BK _ _ hn⟩
    exact⟨rfl,rfl,rfl,(fun h=>by cases h),BK _ _ hn⟩
  · obtain⟨h0,hh0,_⟩:=fget n h' hn he;exact gg.old blk (m.ltH hh0 hs)
  · rw [hget] at he;cases he;have x1:Ext P n0 (·=id) β σ (s.apply { hs:=fr }) w β (upd σ id (some (w1.heap.size,cap))) (s.apply wr) (w1.alloc (.cells cells h.e)):=by
      refine⟨gg.os,gg.tape,gg.output,gg.size,fun b hb _=>.inl (gg.old b hb),fun b hb=>?_,fun b e he hn=>?_,fun n e he hn=>?_⟩
      · rcases hb with⟨n,e,he,hb⟩|⟨n,e,cap',he,hfz,hb⟩
        · rw[gB]at he;exact .inl (.inl ⟨n,e,by trivial,hb⟩)
        by_cases hid:n=id
        · rw[hid,BE]at hb;cases hb;exact .inr g.size
        rw[gs,if_neg hid]at he;rw[BK _ _ hid]at hb;exact .inl (.inr ⟨n,e,cap',he,hfz,hb⟩)
      · rw[gB]at he;exact⟨⟨e,by trivial⟩,rfl⟩
      rw[gs,if_neg hn]at he;exact⟨e,he,BK _ _ hn,rfl,fun _=>rfl⟩
    exact .inl ⟨t,ts,ht,hts,hrl,.inr ⟨w1.heap.size,cap,cells,h.e,BE _ _ _,M6 _ _,rfl,hsz,hcap,Old.new (Nat.le_trans hn0 g.size),v,hv,fun i j t' hi hj=>x1.rep (hrep i j t' hi hj)⟩⟩
  · rw[BE]at hs;cases hs;refine⟨fun n e he hb=>?_,fun n h' cap'' hn he hs=>?_⟩
    · rw[gB]at he;have:=m.ltB he hb;have:=g.size;omega
    obtain⟨h0,hh0,_⟩:=fget n h' hn he;have:=m.ltH hh0 hs;have:=g.size;omega
  · refine⟨fun k tv hk=>?_,fun k e he=>?_,fun k e he=>?_⟩
    · rw[State.getT_apply0 s wr ht0]at hk;exact hfn.t k tv hk
    · rw[gB]at he;exact hfn.b k e he
    by_cases hk:k=id
    · omega
    obtain⟨h0,hh0,_⟩:=fget k e hk he;exact hfn.h k h0 hh0
  · simp_all
  grind
theorem o4 {id:Nat} {cs:List (AC0 E N)} (hcn:∀ n,Fresh a s n→n∉AH cs) {wr:Wr (std E N)} (ht0:wr.ts=[]) (hb:wr.bs=[(id,some { cs,dirty:=true })]) (hh:wr.hs=[]) :
    Tidy a (·=id) s (s.apply wr) where
  fresh n hf hn:=by
    refine⟨fun k tv hk=>?_,fun k e he=>?_,fun k e he=>?_⟩
    · rw[State.getT_apply0 s wr ht0]at hk;exact hf.t k tv hk
    · rw[State.getB_apply1 s id _ wr hb]at he
      by_cases hk:k=id
      · grind
      rw[if_neg hk]at he;exact hf.b k e he
    rw[State.getH_apply0 s wr hh]at he;exact hf.h k e he
  cleanB n e he hd:=by
    rw[State.getB_apply1 s id _ wr hb]at he
    grind
  cleanH n e he hd:=by rw[State.getH_apply0 s wr hh]at he;exact he
theorem Rep.ty {St:Blk→Prop} {t0 t e:TypeId} {v:Value} {l:Rows} (h:Rep P w St t0 v (.rows l)) (h0:AK P t0=.sl e) (h1:AK P t=.sl e):Rep P w St t v (.rows l):=by
 cases h with
 |sl u h hts hl hr hc hm hv=>exact .sl u h1 (by simp_all) hl hr hc hm hv
 |ptN h hb=>exact .ptN h1 (by simp_all)
 |pt h h' hr=>rw[h0]at h;cases h;exact .pt h1 h' hr
theorem XD (m:Mem P n0 β σ s w) {c:AC0 E N} {v:Value} {l:AQ} {fr:List (Nat×Option (HEnt (std E N)))} {nw:Bool} {k k':Nat} (hc:RelC P n0 β σ s w c v)
    (h:RM.run s (kJ (O:=std E N) c) k=.ok ((l,fr,nw),k')):FrOK s fr∧(∀x∈fr,x.1∈c.names) ∧
      ∀(t:TypeId) (s1:St0 E N),BJ (AK P t) c=true→Sub s s1→(∀x∈fr,∀h,s1.getH x.1=some h→h.frozen=true)→(∀x∈fr,∃h,s1.getH x.1=some h) →
        ∀nw':Bool,(nw'=true→nw=true)→Rep P w (StB n0 β σ s1 nw') t v l.pv:=by
  cases c with
  |int q i =>
    have hr:=zzc h;simp only[Prod.mk.injEq]at hr;obtain⟨rfl,rfl,rfl⟩:=hr;refine⟨fun _ _ hm=>by simp at hm,fun _ hm=>by simp at hm,fun t s1 hk _ _ _ nw' _=>?_⟩;have hv:v=.int q i:=hc;subst hv;unfold BJ at hk
    split at hk
    · rename_i q2 q3 i2 hl e;cases e;have:=He.1 hk;subst this;exact .int hl
    all_goals trivial
  |bool b =>
    have hr:=zzc h;simp only[Prod.mk.injEq]at hr;obtain⟨rfl,rfl,rfl⟩:=hr;refine⟨fun _ _ hm=>by simp at hm,fun _ hm=>by simp at hm,fun t s1 hk _ _ _ nw' _=>?_⟩;have hv:v=.bool b:=hc;subst hv;cases hl:AK P t<;>rw[hl]at hk<;>simp[BJ]at hk;exact .bool hl
  |str x =>
    have hr:=zzc h;simp only[Prod.mk.injEq]at hr;obtain⟨rfl,rfl,rfl⟩:=hr;refine⟨fun _ _ hm=>by simp at hm,fun _ hm=>by simp at hm,fun t s1 hk _ _ _ nw' _=>?_⟩;have hv:v=.string x:=hc;subst hv;cases hl:AK P t<;>rw[hl]at hk<;>simp[BJ]at hk;exact .str hl
  |nil e =>
    have hr:=zzc h;simp only[Prod.mk.injEq]at hr;obtain⟨rfl,rfl,rfl⟩:=hr;refine⟨fun _ _ hm=>by simp at hm,fun _ hm=>by simp at hm,fun t s1 hk _ _ _ nw' _=>?_⟩;obtain⟨t0,ts,ht0,hts,av,rfl⟩:=hc;cases hl:AK P t<;>rw[hl]at hk<;>simp[BJ]at hk;rename_i e2;subst hk;exact .sl (fun _ _=>undef) hl hts rfl (by simp) (Nat.le_refl _) (.inl rfl) (fun i j t' hi=>by omega)
  |opq nw0 n0' =>
    have hr:=zzc h;simp only[Prod.mk.injEq]at hr;obtain⟨rfl,rfl,rfl⟩:=hr;refine⟨fun _ _ hm=>by simp at hm,fun _ hm=>by simp at hm,fun t s1 hk hsub _ _ nw' hnw=>?_⟩;cases hl:AK P t<;>rw[hl]at hk<;>simp[BJ]at hk;obtain⟨t0,ht0,hrep⟩:=hc;have h2:=hrep.st (St':=StB n0 β σ s1 nw') (fun b hb=>⟨fun hm=>hb.1 (hsub.inM hm),hb.2.mono hnw⟩);cases h2 with
    |opq h hc hm=>exact .opq hl hc hm
    |int h=>simp_all
  |imm e nw0 l0 =>
    have hr:=zzc h;simp only[Prod.mk.injEq]at hr;obtain⟨rfl,rfl,rfl⟩:=hr;refine⟨fun _ _ hm=>by simp at hm,fun _ hm=>by simp at hm,fun t s1 hk hs _ _ nw' hnw=>?_⟩;obtain⟨t0,ht0,hrep⟩:=hc;cases hl:AK P t<;>rw[hl]at hk<;>simp[BJ]at hk;rename_i e2;subst hk;have h2:=hrep.st (St':=StB n0 β σ s1 nw') (fun b hb=>⟨fun hm=>hb.1 (hs.inM hm),hb.2.mono hnw⟩);exact h2.ty ht0 hl
  |own e id =>
    obtain⟨k1,h⟩:=zzf h;cases hh:s.getH id with
    |none=>rw[hh]at h;trivial
    |some en =>
      rw[hh]at h;have hr:=zzc h;simp only[Prod.mk.injEq]at hr;obtain⟨rfl,rfl,rfl⟩:=hr;refine⟨fun n v hm=>?_,fun x hm=>?_,fun t s1 hk hs hfz hex nw' hnw=>?_⟩
      · simp_all
      · simp only[List.mem_singleton]at hm;subst hm;simp[AC.names]
      obtain⟨⟨te,hte,_⟩,hown⟩:=hc;obtain⟨he,ho⟩:=hown en hh;obtain⟨h1,hh1⟩:=hex _ zzl;have hf1:=hfz _ zzl h1 hh1;obtain⟨h2,hh2,q1,q2,q3,_⟩:=hs.h id h1 hh1;rw[hh]at hh2;cases hh2;obtain⟨t0,ht0,hrep⟩:=uG (hs.mem m) hh1 hf1 (v:=v) ⟨te,by simp_all⟩ (by simp_all);rw[q1,he]at ht0;rw[q2,q3]at hrep;cases hl:AK P t<;>rw[hl]at hk<;>simp[BJ]at hk;rename_i e2;subst hk;have h2:=hrep.st (St':=StB n0 β σ s1 nw') (fun b hb=>⟨hb.1,hb.2.mono hnw⟩);exact h2.ty ht0 hl
  |_=>trivial
def Frz (s1:St0 E N) (fr:List (Nat×Option (HEnt (std E N)))):Prop:=∀x∈fr,∃h,s1.getH x.1=some h∧h.frozen=true
theorem FrOK.frz {fr:List (Nat×Option (HEnt (std E N)))} (h:FrOK s fr) {wr:Wr (std E N)} (hw:wr.hs=fr):Frz (s.apply wr) fr:=by
 intro x hx;obtain⟨h0,hh0,hv⟩:=h x.1 x.2 hx;refine⟨{ h0 with frozen:=true,dirty:=true },?_,rfl⟩;unfold State.apply State.getH;rw[hw];exact WT (fun y hy he=>by
  obtain⟨h1,hh1,hv1⟩:=h y.1 y.2 hy
  simp_all) ⟨x,hx,rfl⟩
theorem Frz.left {s1:St0 E N} {f1 f2:List (Nat×Option (HEnt (std E N)))} (h:Frz s1 (f1++f2)):Frz s1 f1:=fun x hx=>h x (List.mem_append_left _ hx)
theorem Frz.right {s1:St0 E N} {f1 f2:List (Nat×Option (HEnt (std E N)))} (h:Frz s1 (f1++f2)):Frz s1 f2:=fun x hx=>h x (List.mem_append_right _ hx)
theorem FrOK.append {f1 f2:List (Nat×Option (HEnt (std E N)))} (h1:FrOK s f1) (h2:FrOK s f2):FrOK s (f1++f2) :=
 fun n v hm=>(List.mem_append.1 hm).elim (h1 n v) (h2 n v)
theorem T6 (m:Mem P n0 β σ s w):∀ {cs:List (AC0 E N)} {vs:List Value} {ls:List AQ} {fr:List (Nat×Option (HEnt (std E N)))} {nw:Bool} {k k':Nat},RelCs P n0 β σ s w cs vs →
    RM.run s (JI (O:=std E N) cs) k=.ok ((ls,fr,nw),k')→FrOK s fr∧(∀x∈fr,x.1∈AH cs)∧ls.length=cs.length ∧
      ∀(ts:List TypeId) (s1:St0 E N),AX P ts cs=true→Sub s s1→Frz s1 fr→∀nw':Bool,(nw'=true→nw=true) →
        ∀(q:Nat) (t':TypeId) (v:Value),ts[q]?=some t'→vs[q]?=some v→Rep P w (StB n0 β σ s1 nw') t' v (AA (ls.map Leaf.pv) q)
  | [],[],ls,fr,nw,k,k',_,h=>by
    have hr:=zzc h;simp only[Prod.mk.injEq]at hr;obtain⟨rfl,rfl,rfl⟩:=hr;exact⟨fun _ _ hm=>by simp at hm,fun _ hm=>by simp at hm,rfl,fun ts s1 _ _ _ nw' _ q t' v _ hv=>by simp at hv⟩
  |c::cs,v::vs,ls,fr,nw,k,k',hc,h=>by
    obtain⟨⟨l,f1,n1⟩,k1,h1,h2⟩:=zza h;obtain⟨⟨ls2,f2,n2⟩,k2,h3,h4⟩:=zza h2;have hr:=zzc h4;simp only[Prod.mk.injEq]at hr;obtain⟨rfl,rfl,rfl⟩:=hr;obtain⟨a1,a2,a3⟩:=XD m hc.1 h1;obtain⟨b1,b2,b4,b3⟩:=T6 m hc.2 h3;refine⟨a1.append b1,fun x hx=>?_,by simp[b4],fun ts s1 hk hs hf nw' hnw q t' v' hq hv=>?_⟩
    · rcases List.mem_append.1 hx with h|h
      · simp[AH,a2 x h]
      simp[AH,b2 x h]
    cases ts with
    |nil=>simp at hq
    |cons t ts =>
      simp only[AX]at hk
      split at hk
      · rename_i hk1;cases q with
        |zero =>
          simp at hq hv;subst hq;subst hv;exact a3 t s1 hk1 hs (fun x hx h hh=>by obtain⟨h',e1,e2⟩:=hf.left x hx;simp_all)
            (fun x hx=>by obtain⟨h',e1,_⟩:=hf.left x hx;simp_all) nw' (fun e=>by simp_all)
        |succ q =>
          have:=b3 ts s1 hk hs hf.right nw' (fun e=>by simp_all) q t' v' (by trivial) (by trivial);trivial
      cases hk
  | [],_::_,_,_,_,_,_,hc,_=>hc.elim
  |_::_,[],_,_,_,_,_,hc,_=>hc.elim
theorem mC (m:Mem P n0 β σ s w):∀ {css:List (List (AC0 E N))} {vss:List (List Value)} {ls:List (List AQ)} {fr:List (Nat×Option (HEnt (std E N)))} {nw:Bool} {k k':Nat},
    css.length=vss.length→(∀(i:Nat) (cs:List (AC0 E N)) (vs:List Value),css[i]?=some cs→vss[i]?=some vs→RelCs P n0 β σ s w cs vs) →
    RM.run s (oY (O:=std E N) css) k=.ok ((ls,fr,nw),k')→FrOK s fr∧(∀x∈fr,∃cs∈css,x.1∈AH cs)∧ls.length=css.length∧(∀(i:Nat) (l:List AQ) (cs:List (AC0 E N)),ls[i]?=some l→css[i]?=some cs→l.length=cs.length) ∧
      ∀(ts:List TypeId) (s1:St0 E N),K0 P ts css=true→Sub s s1→Frz s1 fr→∀nw':Bool,(nw'=true→nw=true) →
        ∀(i q:Nat) (t':TypeId) (vs:List Value) (v:Value),vss[i]?=some vs→ts[q]?=some t'→vs[q]?=some v→Rep P w (StB n0 β σ s1 nw') t' v (AD (ls.map (·.map Leaf.pv)) i q)
  | [],[],ls,fr,nw,k,k',_,_,h=>by
    have hr:=zzc h;simp only[Prod.mk.injEq]at hr;obtain⟨rfl,rfl,rfl⟩:=hr;exact⟨fun _ _ hm=>by simp at hm,fun _ hm=>by simp at hm,rfl,fun i l cs hl=>by simp at hl,fun ts s1 _ _ _ nw' _ i q t' vs v hv=>by simp at hv⟩
  |c::cs,v::vs,ls,fr,nw,k,k',hlen,hc,h=>by
    obtain⟨⟨l,f1,n1⟩,k1,h1,h2⟩:=zza h;obtain⟨⟨ls2,f2,n2⟩,k2,h3,h4⟩:=zza h2;have hr:=zzc h4;simp only[Prod.mk.injEq]at hr;obtain⟨rfl,rfl,rfl⟩:=hr;obtain⟨a1,a2,a4,a3⟩:=T6 m (hc 0 c v rfl rfl) h1;obtain⟨b1,b2,b4,b5,b3⟩:=mC m (by simpa using hlen) (fun i c v hc1 hv1=>hc (i+1) c v (by trivial) (by trivial)) h3;refine⟨a1.append b1,fun x hx=>?_,by simp[b4],fun i l' c' hl hc'=>?_,fun ts s1 hk hs hf nw' hnw i q t' vs' v' hvs hq hv=>?_⟩
    · grind
    · cases i with
      |zero=>simp_all
      |succ i=>exact b5 i l' c' (by trivial) (by trivial)
    simp only[K0]at hk
    split at hk
    · rename_i hk1;cases i with
      |zero =>
        simp at hvs;subst hvs;have:=a3 ts s1 hk1 hs hf.left nw' (fun e=>by simp_all) q t' v' hq hv;trivial
      |succ i =>
        have:=b3 ts s1 hk hs hf.right nw' (fun e=>by simp_all) i q t' vs' v' (by trivial) hq hv;trivial
    cases hk
  | [],_::_,_,_,_,_,_,hl,_,_=>by simp at hl
  |_::_,[],_,_,_,_,_,hl,_,_=>by simp at hl
theorem JY {α:Type} (n:Nat):∀(k:Nat) (l:List α),(Ja n k l).length=k
 |0,_=>rfl
 |k+1,l=>by simp[Ja,JY n k]
theorem YK {α:Type} (n:Nat):∀(k i:Nat) (l:List α),i<k→(Ja n k l)[i]?=some ((l.drop (i*n)).take n)
 |k+1,0,l,_=>by simp[Ja]
 |k+1,i+1,l,h=>by
  simp only[Ja,List.getElem?_cons_succ];rw[YK n k i _ (by omega),List.drop_drop]
  grind
theorem dS {α:Type} (k:Nat) (l:List α):(FF k l).length=k*l.length:=by
 induction k with
 |zero=>simp[FF]
 |succ k ih=>simp[FF,ih,Nat.add_mul,Nat.add_comm]
theorem ee {α:Type} {l:List α} (hl:0<l.length):∀(k i:Nat),i<k*l.length→(FF k l)[i]?=l[i%l.length]?
 |0,i,h=>by simp at h
 |k+1,i,h=>by
  simp only[FF]
  by_cases hi:i<l.length
  ·rw[List.getElem?_append_left hi,Nat.mod_eq_of_lt hi]
  rw[List.getElem?_append_right (by omega),ee hl k (i-l.length) (by grind)];congr 1
  conv=>rhs;rw[show i=i-l.length+l.length by omega]
  rw[Nat.add_mod_right]
theorem zK {cs:List (AC0 E N)} {vs:List Value} (h:RelCs P n0 β σ s w cs vs) (k:Nat):RelCs P n0 β σ s w (FF k cs) (FF k vs):=by
 induction k with
 |zero=>trivial
 |succ k ih=>exact RelCs.append h ih
theorem tn (z:Array Value) (hz:0<z.size) (k:Nat):((Array.range (k*z.size)).map (z[· % z.size]!)).toList=FF k z.toList:=by
 apply List.ext_getElem?;intro i
 by_cases hi:i<k*z.size
 ·have hm:i%z.size<z.size:=Nat.mod_lt _ hz;rw[ee (by omega) k i (by omega)]
  simp_all
 rw[List.getElem?_eq_none (by simp;omega),List.getElem?_eq_none (by rw[dS];simp;omega)]
theorem OL {o:Oper} {x:Sem Value} {z:Value} {w1:World} (he:execOp a.eval o=(do pure (.value (←x)))) (hx:x.run P w=.ok z w1):(execOp a.eval o).run P w=.ok (.value z) w1:=by
 simp_all
end
end Go.Px
end
