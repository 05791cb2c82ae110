/- Part 3. -/
import Derived.Test.YtejjoflbpnjohaaGreatDoorPart02
set_option linter.unusedVariables false
set_option linter.unusedSimpArgs false
section
namespace Go.Px
section
variable {E:Env} {N:Nat} {P:Program} {n0:Nz} {nt:Nat} {β:Nat→Option Nat} {σ:Nat→Option (Nat×Nat)} {s:St0 E N} {a:Act} {w:World}
theorem fM (hs : Sim P n0 nt β σ s a w) {ctx : List (Nat × Bool)} (hf : Facts a ctx) : ∀ {xs : List Operand} {l : List (Cap (std E N))} {m m' : Nat}, RM.run s (gm P ctx xs) m = .ok (l, m') →
    (xs.map a.eval).length=l.length∧(∀ (i:Nat) (c:Cap (std E N)),l[i]?=some c→∃ x:Value,(xs.map a.eval)[i]?=some x∧RE P n0 β σ s w c x)∧∀ n,Fresh a s n→n∉Hf l
  | [],l,m,m',h=>by cases zzc h;simp [Hf]
  | x::xs,l,m,m',h=>by
    obtain ⟨c,m1,h1,h2⟩:=zza h;obtain ⟨hc,_,hn⟩:=DL hs hf h1;cases c with
    | ptr b off =>
      obtain ⟨l1,m2,h3,h4⟩:=zza h2;cases zzc h4;obtain ⟨e1,e2,e3⟩:=fM hs hf h3;refine ⟨by simpa using e1,fun i c' hi=>?_,fun n hf hm=>?_⟩
      · cases i with
        | zero=>simp at hi;subst hi;exact ⟨_,rfl,hc⟩
        | succ i=>exact e2 i c' (by simpa using hi)
      · rcases List.mem_cons.1 hm with h | h
        · exact hn n hf (by simp [AC.names,h])
        · exact e3 n hf h
    | _=>exact (zzb h2).elim
theorem eP (hs : Sim P n0 nt β σ s a w) {ctx : List (Nat × Bool)} (hf : Facts a ctx) {T : TypeId} : ∀ {xs : List Operand} {cs : List (AC0 E N)} {m m' : Nat}, RM.run s (mi P ctx T xs) m = .ok (cs, m') →
    RelCs P n0 β σ s w cs (xs.map a.eval)
  | [],cs,m,m',h=>by cases zzc h;trivial
  | x::xs,cs,m,m',h=>by
    obtain ⟨c,m1,h1,h2⟩:=zza h;obtain ⟨l,m2,h3,h4⟩:=zza h2;cases zzc h4;exact ⟨(DL hs hf h1).1,eP hs hf h3⟩
theorem dK {lt : Int → Int → Bool} {f : Value → Value → Sem Value} (hfn : ∀ (k : IntKind) (x y : Int), f (.int k x) (.int k y) = pure (.int k (cond (lt y x) y x))) :
    ∀ {r:List (AC0 E N)} {c m:AC0 E N} {v:Value} {vs:List Value},XM (O:=std E N) lt c r=some m→RelC P n0 β σ s w c v→RelCs P n0 β σ s w r vs →
    ∃ z,(vs.foldlM f v).run P w=.ok z w∧RelC P n0 β σ s w m z∧(r≠[]→m.names=[])∧(r=[]→m=c)
  | [],c,m,v,vs,h,hc,hr=>by
    cases vs with
    | cons=>exact hr.elim
    | nil =>
      have:m=c:=by cases c<;>(simp only [XM,Option.some.injEq] at h;exact h.symm)
      subst this;exact ⟨v,by simp,hc,fun h=>(h rfl).elim,fun _=>rfl⟩
  | y::r,c,m,v,vs,h,hc,hr=>by
    cases vs with
    | nil=>exact hr.elim
    | cons u vs =>
      cases c with
      | int k x =>
        cases y with
        | int k' y' =>
          simp only [XM] at h
          split at h
          · rename_i hk;have:=GJ.1 hk;subst this;have hv:v=.int k x:=hc;have hu:u=.int k y':=hr.1;subst hv;subst hu;have hc2:RelC P n0 β σ s w (AC.int (O:=std E N) k (cond (lt y' x) y' x)) (.int k (cond (lt y' x) y' x)):=rfl;obtain ⟨z,hz,hm,hn,he⟩:=dK hfn h hc2 hr.2;refine ⟨z,?_,hm,fun _=>?_,fun h=>by cases h⟩
            · simp only [List.foldlM_cons,Sem.run_bind,hfn,Sem.run_pure,Result.andThen_ok];exact hz
            · cases hr':r with
              | nil=>rw [he hr'];rfl
              | cons a b=>exact hn (by rw [hr'];simp)
          · cases h
        | _=>simp [XM] at h
      | _=>simp [XM] at h
theorem pb (hs : Sim P n0 nt β σ s a w) {ctx : List (Nat × Bool)} (hf : Facts a ctx) {ty : TypeId} {n : Nat} {x y : Operand} {as : List Bool} {r : AV (std E N)}
    {fr:List (Nat×Option (HEnt (std E N)))} {m m':Nat} (h:RM.run s (ph P ctx ty n x y) m=.ok ((as,r,fr),m')) :
    ∃ c z,a.tmps.getD n undef=.bool c∧z=(if c then a.eval x else a.eval y)∧RelAV P n0 β σ s w r z∧r.names=[]∧fr=[]:=by
  obtain ⟨m1,h⟩:=zze h;cases hg:s.getT n with
  | none=>rw [hg] at h;exact (zzb h).elim
  | some tv =>
    rw [hg] at h;simp only at h
    split at h
    · rename_i c hin hv;obtain ⟨u,m2,h1,h2⟩:=zza h;obtain ⟨v,m3,h3,h4⟩:=zza h2;have hn:a.tmps.getD n undef=.bool c:=by
        rcases hs.T n _ hg with ⟨_,hr⟩ | ⟨hnf,_⟩
        · rw [hv] at hr;exact Ea hr
        · exact (hnf (hf.of_in hin)).elim
      split at h4
      · rename_i cs hag hm;cases zzc h4;have hag':u.agg=v.agg:=by simpa using hag
        refine ⟨c,_,hn,rfl,?_,K5 hm,rfl⟩;cases c with
        | true =>
          have hf2:Facts a ((n,true)::ctx):=fun k b hk=>by
            rcases List.mem_cons.1 hk with e | hk
            · cases e;exact hn
            · exact hf k b hk
          obtain ⟨hr,_⟩:=KY hs hf2 h1;obtain ⟨h5,_,_⟩:=II (P:=P) (n0:=n0) (β:=β) (σ:=σ) (s:=s) (w:=w) (vs:=(a.eval x).cells.toList) hm (fun _=>hr.1) (fun e=>by cases e);exact ⟨h5,hr.2⟩
        | false =>
          have hf2:Facts a ((n,false)::ctx):=fun k b hk=>by
            rcases List.mem_cons.1 hk with e | hk
            · cases e;exact hn
            · exact hf k b hk
          obtain ⟨hr,_⟩:=KY hs hf2 h3;obtain ⟨h5,_,_⟩:=II (P:=P) (n0:=n0) (β:=β) (σ:=σ) (s:=s) (w:=w) (vs:=(a.eval y).cells.toList) hm (fun e=>by cases e) (fun _=>hr.1);refine ⟨h5,?_⟩;have:=hr.2;simp only [hag'];exact this
      · exact (zzb h4).elim
    · exact (zzb h).elim
theorem RelVals.get:∀ {cs:List (Val (std E N))} {vs:List Value},RelVals P n0 β σ s w cs vs→∀ {i:Nat} {c:Val (std E N)},cs[i]?=some c→∃ v,vs[i]?=some v∧RelVal P n0 β σ s w c v
 | c::cs,x::vs,h,0,c',hc=>by simp at hc;subst hc;exact ⟨x,rfl,h.1⟩
 | c::cs,x::vs,h,i+1,c',hc=>by
  obtain ⟨v,hv,hr⟩:=RelVals.get h.2 (i:=i) (by simpa using hc);exact ⟨v,by simpa using hv,hr⟩
 | [],_,_,i,c',hc=>by simp at hc
 | _::_,[],h,_,_,_=>h.elim
theorem fw {cs:List (Val (std E N))} {i:Nat} {c:Val (std E N)} (hc:cs[i]?=some c) {n:Nat} (hn:n∈AF c.cs):n∈Bh cs:=by
 induction cs generalizing i with
 | nil=>simp at hc
 | cons x cs ih =>
  cases i with
  | zero=>simp at hc;subst hc;simp [Bh,hn]
  | succ i=>simp only [Bh,List.mem_append];exact .inr (ih (by simpa using hc))
theorem Cc {o:Oper} {x:Sem Value} {z:Value} (he:execOp a.eval o=(do pure (.value (← x)))) (hx:x.run P w=.ok z w):(execOp a.eval o).run P w=.ok (.value z) w:=by
 rw [he];simp [hx]
theorem oW (hs : Sim P n0 nt β σ s a w) {ctx : List (Nat × Bool)} (hf : Facts a ctx) {o : Oper} {as : List Bool} {r : AV (std E N)}
    {fr:List (Nat×Option (HEnt (std E N)))} {m m':Nat} (h:RM.run s (Xg P ctx o.type o.op) m=.ok ((as,r,fr),m')) (has:∀ b∈as,b=true) :
    ∃ z,(execOp a.eval o).run P w=.ok (.value z) w∧RelAV P n0 β σ (s.apply { hs:=fr }) w r z∧(∀ n,Fresh a s n→n∉r.names)∧FrOK s fr:=by
  have frn:FrOK s ([]:List (Nat×Option (HEnt (std E N)))):=fun n v hm=>by simp at hm
  have sub0:∀ {c:AV (std E N)} {z:Value},RelAV P n0 β σ s w c z→RelAV P n0 β σ (s.apply { hs:=[] }) w c z:=fun {c z} hr =>
    ((frn.sub (wr:={ hs:=[] }) rfl rfl).ext P (fun _=>False) β σ w).relAV (fun _ _=>id) hr
  have one0:∀ {c:AC0 E N} {z:Value},RelC P n0 β σ s w c z→RelAV P n0 β σ (s.apply { hs:=[] }) w (one c) z:=fun {c z} hr=>sub0 (Aw hr)
  have nm:∀ {c:AC0 E N},c.names=[]→∀ n,Fresh a s n→n∉(one c).names:=fun {c} hc n _=>by simp [AV.names,one,AF,hc]
  cases hop:o.op with
  | move x =>
    rw [hop] at h;obtain ⟨v,m1,h1,h2⟩:=zza h;cases zzc h2;obtain ⟨hr,hn⟩:=ST hs hf h1;exact ⟨a.eval x,by simp [execOp,hop],sub0 hr,hn,frn⟩
  | assign x =>
    rw [hop] at h;obtain ⟨v,m1,h1,h2⟩:=zza h;cases zzc h2;obtain ⟨hr,hn⟩:=ST hs hf h1;exact ⟨a.eval x,by simp [execOp,hop],sub0 hr,hn,frn⟩
  | pick c x y =>
    rw [hop] at h;cases c with
    | tmp n =>
      obtain ⟨c,z,h1,h2,h3,h4,rfl⟩:=pb hs hf h;have hc:a.eval (.tmp n)=.bool c:=h1;refine ⟨z,?_,sub0 h3,fun n _=>by rw [h4];simp,frn⟩;simp only [execOp,hop,Sem.run_bind,hc,asBool,Sem.run_pure,Result.andThen_ok,h2]
    | const c=>exact (zzb h).elim
    | func f=>exact (zzb h).elim
    | global g=>exact (zzb h).elim
  | build T parts =>
    rw [hop] at h;simp only [Xg] at h
    split at h
    · exact (zzb h).elim
    · rename_i z hz
      split at h
      · exact (zzb h).elim
      · rename_i hag;obtain ⟨i,v,hi,hiz,hzv,hr,hn,ho⟩:=MY (n0:=n0) (β:=β) (σ:=σ) (s:=s) (w:=w) hz;obtain ⟨za,zc⟩:=z;simp only at hag;subst hag;obtain ⟨vs,rfl,hrz⟩:=M0 hr;obtain ⟨cs,m1,h1,h2⟩:=zza h;cases zzc h2
        split at h1
        · rename_i fs hu;obtain ⟨_,m2,hg,h3⟩:=zza h1;have hinfo:∀ f∈fs.toList,∃ i,P.info? f.type=some i:=fun f hfm=>by
            have:=List.all_eq_true.1 (zzd hg) f hfm;exact Option.isSome_iff_exists.1 this
          have hmap:(fs.mapM fun f=>do pure (f.offset,← sizeOf f.type):Sem (Array (Nat×Nat))).run P w=.ok (fs.map fun f=>(f.offset,P.cellsOf f.type)) w:=by
            rw [Array.mapM_eq_mapM_toList];have:∀ l:List Field,(∀ f∈l,∃ i,P.info? f.type=some i)→(l.mapM fun f=>do pure (f.offset,← sizeOf f.type):Sem (List (Nat×Nat))).run P w=.ok (l.map fun f=>(f.offset,P.cellsOf f.type)) w:=by
              intro l
              induction l with
              | nil=>intro _;simp
              | cons f l ih =>
                intro hl;obtain ⟨i,hi⟩:=hl f zzl;rw [List.mapM_cons];simp only [Sem.run_bind,BZ hi,Result.andThen_ok,Sem.run_pure,ih (fun g hg=>hl g (zzm _ hg)),List.map_cons]
            simp only [Sem.run_map,this fs.toList hinfo,Result.andThen_ok];congr 1;apply Array.ext';simp
          obtain ⟨cells',f1,f2,f3,f4⟩:=VF hs hf (place:=fun i=>(fs.toList[i]?).map fun (f:Field)=>(f.offset,f.type))
            (place':=((fs.map fun f=>(f.offset,P.cellsOf f.type))[·]?)) (fun i off T hp=>by
              simp only [zzo,Prod.mk.injEq] at hp;obtain ⟨f,hf,rfl,rfl⟩:=hp;have:fs[i]?=some f:=by simpa using hf
              simp [this]) h3 hrz
          refine ⟨.agg cells',Cc (x:=Instr.build T (parts.map fun (i,x)=>(i,a.eval x))) (by simp [execOp,hop]) ?_,sub0 ⟨f2,_,rfl⟩,fun n hnf=>f4 n hnf (by rw [hn];simp),frn⟩;have hl:(parts.map fun (i,x)=>(i,a.eval x)).toList=parts.toList.map fun (i,x)=>(i,a.eval x):=by simp
          simp only [Instr.build,Sem.run_bind,hzv,Result.andThen_ok,run_underlying hu,hmap,hl,Value.cells,f1,Sem.run_pure]
        · rename_i n e hu;obtain ⟨_,m2,hg,h3⟩:=zza h1;obtain ⟨i,hi⟩:=Fb (Bd.1 (zzd hg));obtain ⟨cells', f1, f2, f3, f4⟩ := VF hs hf (place := fun i => some (i * P.cellsOf e, e)) (place' := fun i => some (i * P.cellsOf e, P.cellsOf e)) (fun i off T hp => by
              simp only [Option.some.injEq,Prod.mk.injEq] at hp;obtain ⟨rfl,rfl⟩:=hp;rfl) h3 hrz
          refine ⟨.agg cells',Cc (x:=Instr.build T (parts.map fun (i,x)=>(i,a.eval x))) (by simp [execOp,hop]) ?_,sub0 ⟨f2,_,rfl⟩,fun n hnf=>f4 n hnf (by rw [hn];simp),frn⟩;have hl:(parts.map fun (i,x)=>(i,a.eval x)).toList=parts.toList.map fun (i,x)=>(i,a.eval x):=by simp
          simp only [Instr.build,Sem.run_bind,hzv,Result.andThen_ok,run_underlying hu,BZ hi,hl,Value.cells,f1,Sem.run_pure]
        · exact (zzb h1).elim
  | load T p =>
    rw [hop] at h;obtain ⟨c,m1,h1,h2⟩:=zza h;obtain ⟨cs,m2,h3,h4⟩:=zza h2;obtain ⟨_,m3,h5,h6⟩:=zza h4;have hag:=zzd h5;cases zzc h6;obtain ⟨hc,_,_⟩:=DL hs hf h1;obtain ⟨⟨blk,off,vs,hv,hl,hr,hcell⟩,hn⟩:=pP hs.M hc h3;obtain ⟨z,hz,hrel⟩:=QC hr hag hl hcell;refine ⟨z,Cc (x:=Instr.loadAt T (a.eval p)) (by simp [execOp,hop]) (by simp [Instr.loadAt,hv,Instr.sureAddr,hz]),sub0 hrel,fun n hn'=>hn n hn',frn⟩
  | nilCheck x =>
    rw [hop] at h;obtain ⟨c,m1,h1,h2⟩:=zza h;obtain ⟨hc,_,hn⟩:=DL hs hf h1;have fin:∀ c':AC0 E N,c=c'→(∃ blk o,a.eval x=.pointer (some ⟨blk,o,none⟩))→∃ z,(execOp a.eval o).run P w=.ok (.value z) w∧RelAV P n0 β σ (s.apply { hs:=[] }) w (one c') z∧(∀ n,Fresh a s n→n∉(one c').names):=by
      rintro c' rfl ⟨blk,o',hv⟩
      refine ⟨a.eval x,by simp [execOp,hop,hv],one0 hc,fun n hf hm=>hn n hf (by simpa [AV.names,one,AF] using hm)⟩
    cases c with
    | ptr b off=>cases zzc h2;obtain ⟨z,z1,z2,z3⟩:=fin _ rfl (by obtain ⟨blk,hv,_⟩:=hc;exact ⟨_,_,hv⟩);exact ⟨z,z1,z2,z3,frn⟩
    | eptr id i off=>cases zzc h2;obtain ⟨z,z1,z2,z3⟩:=fin _ rfl (by obtain ⟨_,blk,o',hv,_⟩:=hc;exact ⟨_,_,hv⟩);exact ⟨z,z1,z2,z3,frn⟩
    | iptr e nw l i off=>cases zzc h2;obtain ⟨z,z1,z2,z3⟩:=fin _ rfl (by obtain ⟨_,_,_,_,blk,_,_,_,_,_,_,hv⟩:=hc;exact ⟨_,_,hv⟩);exact ⟨z,z1,z2,z3,frn⟩
    | aptr b off n sz i inner=>cases zzc h2;obtain ⟨z,z1,z2,z3⟩:=fin _ rfl (by obtain ⟨_,_,blk,hv,_⟩:=hc;exact ⟨_,_,hv⟩);exact ⟨z,z1,z2,z3,frn⟩
    | _=>exact (zzb h2).elim
  | binOp op T x y yT =>
    rw [hop] at h;obtain ⟨p,m1,h1,h2⟩:=zza h;obtain ⟨q,m2,h3,h4⟩:=zza h2;obtain ⟨hp,_⟩:=KY hs hf h1;obtain ⟨hq,_⟩:=KY hs hf h3;obtain ⟨z,hz,hr,hn,rfl⟩:=qp (yT:=yT) (x:=x) hp hq (fun k n hy=>by rw [hy];rfl) h4 has;exact ⟨z,Cc (by simp [execOp,hop]) hz,sub0 hr,fun n _=>by rw [hn];simp,frn⟩
  | unOp op T x =>
    rw [hop] at h;obtain ⟨c,m1,h1,h2⟩:=zza h;obtain ⟨hc,ho,hnn⟩:=DL hs hf h1
    split at h2
    · rename_i b;cases zzc h2;have hv:a.eval x=.bool b:=hc;exact ⟨.bool !b,Cc (x:=Op.unary .not (a.eval x)) (by simp [execOp,hop]) (by rw [hv];rfl),one0 (c:=.bool _) rfl,nm rfl,frn⟩
    · rename_i k i;cases zzc h2;have hv:a.eval x=.int k i:=hc;exact ⟨.int k (k.wrap (0 - i)),Cc (x:=Op.unary .neg (a.eval x)) (by simp [execOp,hop]) (by rw [hv];rfl),one0 (c:=.int _ _) rfl,nm rfl,frn⟩
    · exact (zzb h2).elim
  | convert src dst x =>
    rw [hop] at h;obtain ⟨c,m1,h1,h2⟩:=zza h;obtain ⟨hc,ho,hnn⟩:=DL hs hf h1;unfold fQ at h2
    split at h2
    · exact (zzb h2).elim
    · rename_i d hu
      split at h2
      · rename_i k k' i hk;cases zzc h2;have hv:a.eval x=.int k' i:=hc;refine ⟨.int k (k.wrap i),Cc (x:=Go.convert src dst (a.eval x)) (by simp [execOp,hop]) ?_,one0 (c:=.int _ _) rfl,nm rfl,frn⟩;simp only [Go.convert,Sem.run_bind,run_underlying hu,run_underlying (aA hk),Result.andThen_ok,hv];cases d<;>rfl
      · rename_i x' hk;cases zzc h2;have hv:a.eval x=.string x':=hc;refine ⟨.string x',Cc (x:=Go.convert src dst (a.eval x)) (by simp [execOp,hop]) ?_,one0 (c:=.str _) rfl,nm rfl,frn⟩;simp only [Go.convert,Sem.run_bind,run_underlying hu,run_underlying (Z5 hk),Result.andThen_ok,hv];cases d<;>rfl
      · exact (zzb h2).elim
  | extract x i =>
    rw [hop] at h;obtain ⟨v,m1,h1,h2⟩:=zza h;obtain ⟨hr,hn⟩:=ST hs hf h1;cases v with
    | val v=>exact (zzb h2).elim
    | tup vs =>
      simp only at h2
      split at h2
      · rename_i v hv;cases zzc h2;obtain ⟨us,hu,hrs⟩:=hr;obtain ⟨z,hz,hrz⟩:=hrs.get hv;refine ⟨z,Cc (x:=Instr.extract (a.eval x) i) (by simp [execOp,hop]) ?_,sub0 hrz,fun n hf hm=>hn n hf (fw hv hm),frn⟩;rw [hu];have:us[i]?=some z:=by simpa using hz
        simp [Instr.extract,this]
      · exact (zzb h2).elim
  | field T x f =>
    rw [hop] at h;obtain ⟨v,m1,h1,h2⟩:=zza h;obtain ⟨hr,hn⟩:=KY hs hf h1;obtain ⟨va,vc⟩:=v;simp only at h2
    split at h2
    · exact (zzb h2).elim
    · rename_i fd hfd
      split at h2
      · rename_i cs hsl;obtain ⟨_,m2,h3,h4⟩:=zza h2;have hag:=zzd h3;cases zzc h4;obtain ⟨us,hu,hrs⟩:=M0 hr;obtain ⟨z,hz,hrel⟩:=qA hfd hrs hsl hag;refine ⟨z,Cc (x:=Instr.field T (a.eval x) f) (by simp [execOp,hop]) (by rw [hu];exact hz),sub0 hrel,fun n hf hm=>hn n hf (Dx hsl hm),frn⟩
      · exact (zzb h2).elim
  | fieldAddr T x f =>
    rw [hop] at h;obtain ⟨c,m1,h1,h2⟩:=zza h;obtain ⟨hc,_,hn⟩:=DL hs hf h1
    split at h2
    · exact (zzb h2).elim
    · rename_i fd hfd;obtain ⟨_,m2,h3,h4⟩:=zza h2;have hg:=zzd h3
      split at h4
      · rename_i p hp;cases zzc h4;obtain ⟨blk,off,hv,hr,hnm⟩:=cJ hp hc;refine ⟨_,Cc (x:=Instr.fieldAt T (a.eval x) f) (by simp [execOp,hop]) (by rw [hv];exact lj hfd (by simpa [BP] using hg)),one0 hr,fun n hf hm=>hn n hf (by simpa [AV.names,one,AF,hnm] using hm),frn⟩
      · exact (zzb h4).elim
  | indexAddr T x ix =>
    rw [hop] at h;obtain ⟨c,m1,h1,h2⟩:=zza h;obtain ⟨i,m2,h3,h4⟩:=zza h2;obtain ⟨hc,_,hn⟩:=DL hs hf h1;obtain ⟨k,hk⟩:=bv hs hf h3;obtain ⟨z,hz,hr,hnm,rfl⟩:=eK (k:=k) hs hc (fun k' n hx=>by rw [hx] at hk;cases hk;rfl) h4 has;exact ⟨z,Cc (x:=Instr.indexAt T (a.eval x) (a.eval ix)) (by simp [execOp,hop]) (by rw [hk];exact hz),sub0 hr,fun n hf hm=>hn n hf (hnm n hm),frn⟩
  | index T x ix =>
    rw [hop] at h;obtain ⟨v,m1,h1,h2⟩:=zza h;obtain ⟨i,m2,h3,h4⟩:=zza h2;obtain ⟨hc,hn⟩:=KY hs hf h1;obtain ⟨k,hk⟩:=bv hs hf h3;obtain ⟨z,hz,hr,hnm,rfl⟩:=my (k:=k) hc (fun k' n hx=>by rw [hx] at hk;cases hk;rfl) h4 has;exact ⟨z,Cc (x:=Instr.index T (a.eval x) (a.eval ix)) (by simp [execOp,hop]) (by rw [hk];exact hz),sub0 hr,fun n hf hm=>hn n hf (hnm n hm),frn⟩
  | slice T x lo hi mx =>
    rw [hop] at h;obtain ⟨c,m1,h1,h2⟩:=zza h;obtain ⟨hc,_,hn⟩:=DL hs hf h1;obtain ⟨z,hz,hr,hnm,hfr⟩:=nC hs hf hc h2 has;exact ⟨z,Cc (by simp [execOp,hop]) hz,hr,fun n _=>by rw [hnm];simp,hfr⟩
  | makeFunc fn first caps =>
    rw [hop] at h;cases fn with
    | func f =>
      simp only [Xg] at h
      split at h
      · rename_i hfirst;obtain ⟨l,m1,h1,h2⟩:=zza h;cases zzc h2;obtain ⟨e1,e2,e3⟩:=fM hs hf h1;have hf0:first=#[]:=Array.toList_eq_nil_iff.1 hfirst
        refine ⟨.func (.func f) #[] (caps.map a.eval),Cc (x:=Instr.makeFunc (.func f) (first.map a.eval) (caps.map a.eval)) (by simp [execOp,hop]) (by subst hf0;simp [Instr.makeFunc]),one0 ⟨caps.toList.map a.eval,?_,e1,e2⟩,fun n hf hm=>e3 n hf (by simpa [AV.names,one,AF,AC.names] using hm),frn⟩;congr 1;apply Array.ext';simp
      · exact (zzb h).elim
    | _=>exact (zzb h).elim
  | call c =>
    rw [hop] at h;obtain ⟨callee,args,argTypes⟩:=c;cases callee with
    | value f=>exact (zzb h).elim
    | invoke x y=>exact (zzb h).elim
    | builtin b =>
      have hex : ∀ (x : Sem Value), builtin b argTypes o.type (args.map fun | .const _ => true | _ => false) (args.map a.eval) = (do pure (.value (← x))) →
          execOp a.eval o=(do pure (.value (← x))):=by
        intro x hx;simp only [execOp,hop,resolve];simp only [pure_bind,invoke];exact hx
      cases b with
      | len =>
        simp only [Xg] at h
        split at h
        · rename_i x T ha hT;have ha':args=#[x]:=by apply Array.ext';simpa using ha
          have hT':argTypes=#[T]:=by apply Array.ext';simpa using hT
          subst ha';subst hT'
          split at h
          · rename_i n e hu;cases zzc h;refine ⟨goInt n,Cc (hex (Builtin.len_ #[T] o.type #[a.eval x]) (by simp [builtin])) ?_,one0 (c:=.int _ _) rfl,nm rfl,frn⟩;simp [Builtin.len_,run_underlying hu]
          · rename_i hu;obtain ⟨c,m1,h1,h2⟩:=zza h;obtain ⟨hc,_,_⟩:=DL hs hf h1;cases c with
            | str y =>
              cases zzc h2;have hv:a.eval x=.string y:=hc;refine ⟨goInt (ByteArray.size y),Cc (hex (Builtin.len_ #[T] o.type #[a.eval x]) (by simp [builtin])) ?_,one0 (c:=.int _ _) rfl,nm rfl,frn⟩;simp [Builtin.len_,run_underlying hu,hv]
            | _=>exact (zzb h2).elim
          · rename_i e hu;obtain ⟨c,m1,h1,h2⟩:=zza h;obtain ⟨⟨e',l,nb⟩,m2,h3,h4⟩:=zza h2;cases zzc h4;obtain ⟨hc,_,_⟩:=DL hs hf h1;have key:∃ av cap,a.eval x=.slice av (List.length l) cap:=by
              cases c with
              | nil e0 =>
                have hrr:=zzc h3;simp only [Prod.mk.injEq] at hrr;obtain ⟨_,rfl,_⟩:=hrr;obtain ⟨t,ts,ht,hts,av,hv⟩:=hc;exact ⟨av,0,hv⟩
              | imm e0 nw0 l0 =>
                have hrr:=zzc h3;simp only [Prod.mk.injEq] at hrr;obtain ⟨_,rfl,_⟩:=hrr;obtain ⟨t,ht,hrep⟩:=hc;generalize a.eval x=vv at hrep;cases hrep with
                | @sl _ e2 ts av len cap _ vv ht' hts hl hr hc hm hv=>exact ⟨av,cap,by rw [hl]⟩
              | own e0 id =>
                obtain ⟨m5,h3⟩:=zzf h3;cases hh:s.getH id with
                | none=>rw [hh] at h3;exact (zzb h3).elim
                | some en =>
                  rw [hh] at h3;have hrr:=zzc h3;simp only [Prod.mk.injEq] at hrr;obtain ⟨_,rfl,_⟩:=hrr;obtain ⟨_,hk⟩:=hc;obtain ⟨_,ho⟩:=hk en hh
                  rcases ho with ⟨blk,cap,_,hv⟩ | ⟨_,hz,av,hv⟩
                  · exact ⟨_,cap,hv⟩
                  · exact ⟨av,0,by rw [hz];exact hv⟩
              | _=>exact (zzb h3).elim
            obtain ⟨av,cap,hv⟩:=key;refine ⟨goInt (List.length l),Cc (hex (Builtin.len_ #[T] o.type #[a.eval x]) (by simp [builtin])) ?_,one0 (c:=.int _ _) rfl,nm rfl,frn⟩;simp [Builtin.len_,run_underlying hu,hv]
          · exact (zzb h).elim
        · exact (zzb h).elim
      | min =>
        obtain ⟨cs,m1,h1,h2⟩:=zza h;have hcs:=eP hs hf h1;have hl:(args.map a.eval).toList=args.toList.map a.eval:=by simp
        match cs,h2,hcs with
        | [],h2,_=>exact (zzb h2).elim
        | [_],h2,_=>exact (zzb h2).elim
        | c::c2::r,h2,hcs =>
          simp only at h2
          split at h2
          · rename_i mm hmm;cases zzc h2;cases hxs:args.toList.map a.eval with
            | nil=>rw [hxs] at hcs;exact hcs.elim
            | cons v vs =>
              rw [hxs] at hcs;obtain ⟨z,hz,hr,hn1,hn2⟩:=dK (P:=P) (n0:=n0) (β:=β) (σ:=σ) (s:=s) (w:=w) (f:=Builtin.min2) (fun k x y=>by simp [Builtin.min2,iLt,Bool.cond_decide]) hmm hcs.1 hcs.2;refine ⟨z,Cc (hex (Builtin.min_ argTypes o.type (args.map a.eval)) rfl) ?_,one0 hr,fun n hnf hm=>?_,frn⟩
              · simp only [Builtin.min_,hl,hxs];exact hz
              · rw [show (one mm).names=AF [mm] from rfl] at hm;simp [AF,hn1 (by simp)] at hm
          · exact (zzb h2).elim
      | max =>
        obtain ⟨cs,m1,h1,h2⟩:=zza h;have hcs:=eP hs hf h1;have hl:(args.map a.eval).toList=args.toList.map a.eval:=by simp
        match cs,h2,hcs with
        | [],h2,_=>exact (zzb h2).elim
        | [_],h2,_=>exact (zzb h2).elim
        | c::c2::r,h2,hcs =>
          simp only at h2
          split at h2
          · rename_i mm hmm;cases zzc h2;cases hxs:args.toList.map a.eval with
            | nil=>rw [hxs] at hcs;exact hcs.elim
            | cons v vs =>
              rw [hxs] at hcs;obtain ⟨z,hz,hr,hn1,hn2⟩:=dK (P:=P) (n0:=n0) (β:=β) (σ:=σ) (s:=s) (w:=w) (f:=Builtin.max2) (lt:=fun a b=>iLt b a) (fun k x y=>by simp [Builtin.max2,iLt,Bool.cond_decide]) hmm hcs.1 hcs.2;refine ⟨z,Cc (hex (Builtin.max_ argTypes o.type (args.map a.eval)) rfl) ?_,one0 hr,fun n hnf hm=>?_,frn⟩
              · simp only [Builtin.max_,hl,hxs];exact hz
              · rw [show (one mm).names=AF [mm] from rfl] at hm;simp [AF,hn1 (by simp)] at hm
          · exact (zzb h2).elim
      | _=>exact (zzb h).elim
  | _=>rw [hop] at h;exact (zzb h).elim
end
def upd {α:Type} (f:Nat→Option α) (k:Nat) (v:Option α):Nat→Option α:=fun n=>if n=k then v else f n
section
variable {E:Env} {N:Nat} {P:Program} {n0:Nz} {nt:Nat} {β:Nat→Option Nat} {σ:Nat→Option (Nat×Nat)} {s s':St0 E N} {a:Act} {w w':World}
theorem A3 {α:Type} (f:Nat→Option α) (k:Nat) (v:Option α):upd f k v k=v:=by simp [upd]
theorem Az {α:Type} (f:Nat→Option α) {k n:Nat} (v:Option α) (h:n≠k):upd f k v n=f n:=by simp [upd,h]
structure Grow (w w':World):Prop where
 os:w'.os=w.os
 tape:w'.tape=w.tape
 output:w'.output=w.output
 size:w.heap.size≤w'.heap.size
 old:∀ b,b<w.heap.size→w'.heap[b]?=w.heap[b]?
theorem Grow.refl (w:World):Grow w w:=⟨rfl,rfl,rfl,Nat.le_refl _,fun _ _=>rfl⟩
theorem Grow.alloc (w:World) (o:Obj):Grow w (w.alloc o):=⟨rfl,rfl,rfl,by simp,fun b hb=>by
 show (w.heap.push o)[b]?=_;rw [Array.getElem?_push,if_neg (by omega)]⟩
theorem Grow.drew (w:World):Grow w w.drew:=⟨rfl,rfl,rfl,Nat.le_refl _,fun _ _=>rfl⟩
theorem Grow.trans {w1 w2 w3:World} (h:Grow w1 w2) (k:Grow w2 w3):Grow w1 w3 :=
 ⟨k.os.trans h.os,k.tape.trans h.tape,k.output.trans h.output,Nat.le_trans h.size k.size,fun b hb=>(k.old b (Nat.lt_of_lt_of_le hb h.size)).trans (h.old b hb)⟩
theorem Grow.ext (g:Grow w w') (P:Program) (new:Nat→Prop) (β:Nat→Option Nat) (σ:Nat→Option (Nat×Nat)) (s:St0 E N):Ext P new β σ s w β σ s w' :=
 ⟨g.os,g.tape,g.output,g.size,fun b hb _=>g.old b hb,fun _ h=>.inl h,fun b e h _=>⟨⟨e,h⟩,rfl⟩,fun id h hh _=>⟨h,hh,rfl,rfl,fun _=>rfl⟩⟩
theorem Pb (w:World) (o:Obj):(w.alloc o).heap[w.heap.size]?=some o:=by
 show (w.heap.push o)[w.heap.size]?=some o;simp
theorem tw (m : Mem P n0 β σ s w) {id : Nat} (hf : Fresh a s id) {cs : List (AC0 E N)} {vs : Array Value} (hr : RelCs P n0 β σ s w cs vs.toList)
    (hcn:id∉AF cs) (T:TypeId) (hbh:BH w.heap.size vs T cs) {wr:Wr (std E N)} (hb:wr.bs=[(id,some { cs,dirty:=true })]) (hh:wr.hs=[]) :
    Mem P n0 (upd β id (some w.heap.size)) σ (s.apply wr) (w.alloc (.cells vs T)) ∧
      Ext P (·=id) β σ s w (upd β id (some w.heap.size)) σ (s.apply wr) (w.alloc (.cells vs T)):=by
  have gB:=fun n=>State.getB_apply1 s id (some { cs,dirty:=true }) wr hb n
  have gH:=fun n=>State.getH_apply0 s wr hh n
  have old:∀ n e,s.getB n=some e→n≠id:=fun n e he h=>((hf.b n e he).1 h.symm)
  have hltB:∀ n e blk,s.getB n=some e→β n=some blk→blk<w.heap.size:=fun n e blk he hb=>by
    obtain ⟨blk',cells,el,hb',hheap,_⟩:=m.B n e he;rw [hb'] at hb;cases hb;exact A9 hheap
  have hltH:∀ n e blk cap,s.getH n=some e→σ n=some (blk,cap)→blk<w.heap.size:=fun n e blk cap he hb=>by
    rcases m.H n e he with ⟨t,ts,_,_,_,hm⟩ | hM
    case inr=>obtain ⟨⟨o,ho⟩,_⟩:=hM.blk hb;exact A9 ho
    rcases hm with ⟨h1,_⟩ | ⟨blk',cap',cells,el,h1,hheap,_⟩
    · rw [h1] at hb;cases hb
    · rw [h1] at hb;cases hb;exact A9 hheap
  have x:Ext P (·=id) β σ s w (upd β id (some w.heap.size)) σ (s.apply wr) (w.alloc (.cells vs T)):=by
    have g:=Grow.alloc w (.cells vs T);refine ⟨g.os,g.tape,g.output,g.size,fun b hb _=>g.old b hb,fun b hb=>?_,fun b e he hn=>?_,fun n e he hn=>?_⟩
    · rcases hb with ⟨n,e,he,hb⟩ | ⟨n,e,cap,he,hfz,hb⟩
      · rw [gB] at he
        by_cases hid:n=id
        · rw [hid,A3] at hb;cases hb;exact .inr (Nat.le_refl _)
        · rw [if_neg hid] at he;rw [Az _ _ hid] at hb;exact .inl (.inl ⟨n,e,he,hb⟩)
      · rw [gH] at he;exact .inl (.inr ⟨n,e,cap,he,hfz,hb⟩)
    · rw [gB,if_neg hn] at he;exact ⟨⟨e,he⟩,Az _ _ hn⟩
    · rw [gH] at he;exact ⟨e,he,rfl,rfl,fun _=>rfl⟩
  have hnew:∀ n,n∈AF cs→¬ n=id:=fun n hn h=>hcn (h▸hn)
  refine ⟨⟨fun n e he=>?_,fun n e he=>?_,fun b b' e e' blk h h' hb hb'=>?_,fun i i' e e' blk cap cap' h h' hi hi'=>?_,fun b e i h blk cap hb hi h1 h2=>?_⟩,x⟩
  · rw [gB] at he
    by_cases hid:n=id
    · rw [if_pos hid] at he;cases he;exact ⟨w.heap.size,vs,T,by rw [hid,A3],Pb w _,x.relCs hnew hr,hbh⟩
    · rw [if_neg hid] at he;obtain ⟨blk,cells,el,hb,hheap,hrel,hbh⟩:=m.B n e he;exact ⟨blk,cells,el,by rw [Az _ _ hid];exact hb,((Grow.alloc w (.cells vs T)).old blk (A9 hheap)).trans hheap,
        x.relCs (fun k hk h=>(hf.b n e he).2 (h▸hk)) hrel,hbh⟩
  · rw [gH] at he
    rcases m.H n e he with ⟨t,ts,ht,hts,hrl,hm⟩ | hM
    case inr=>exact .inr (hM.view rfl rfl rfl (fun blk cap hb=>(Grow.alloc w (.cells vs T)).old blk (hltH n e blk cap he hb)) (fun _ _ _ ho=>ho))
    refine .inl ⟨t,ts,ht,hts,hrl,?_⟩
    rcases hm with hm | ⟨blk,cap,cells,el,ha,hheap,hel,hc,hd,hnw,v,hv,hrep⟩
    · exact .inl hm
    · exact .inr ⟨blk,cap,cells,el,ha,((Grow.alloc w (.cells vs T)).old blk (A9 hheap)).trans hheap,hel,hc,hd,hnw,v,hv,fun i j t' hi hj=>x.rep (hrep i j t' hi hj)⟩
  · rw [gB] at h h'
    by_cases h1:b=id<;>by_cases h2:b'=id
    · rw [h1,h2]
    · rw [h1,A3] at hb;cases hb;rw [if_neg h2] at h';rw [Az _ _ h2] at hb';have:=hltB b' e' _ h' hb';omega
    · rw [h2,A3] at hb';cases hb';rw [if_neg h1] at h;rw [Az _ _ h1] at hb;have:=hltB b e _ h hb;omega
    · rw [if_neg h1] at h;rw [if_neg h2] at h';rw [Az _ _ h1] at hb;rw [Az _ _ h2] at hb';exact m.uB b b' e e' blk h h' hb hb'
  · rw [gH] at h h';exact m.uH i i' e e' blk cap cap' h h' hi hi'
  · rw [gB] at hb;rw [gH] at hi
    by_cases h3:b=id
    · rw [h3,A3] at h1;cases h1;have:=hltH i h _ _ hi h2;omega
    · rw [if_neg h3] at hb;rw [Az _ _ h3] at h1;exact m.uX b e i h blk cap hb hi h1 h2
theorem Mem.ltB (m:Mem P n0 β σ s w) {n:Nat} {e:BEnt (std E N)} {blk:Nat} (he:s.getB n=some e) (hb:β n=some blk):blk<w.heap.size:=by
 obtain ⟨blk',cells,el,hb',hheap,_⟩:=m.B n e he;rw [hb'] at hb;cases hb;exact A9 hheap
theorem Mem.ltH (m:Mem P n0 β σ s w) {n:Nat} {e:HEnt (std E N)} {blk cap:Nat} (he:s.getH n=some e) (hb:σ n=some (blk,cap)):blk<w.heap.size:=by
 rcases m.H n e he with ⟨t,ts,_,_,_,hm⟩ | hM
 case inr=>obtain ⟨⟨o,ho⟩,_⟩:=hM.blk hb;exact A9 ho
 rcases hm with ⟨h1,_⟩ | ⟨blk',cap',cells,el,h1,hheap,_⟩
 ·rw [h1] at hb;cases hb
 ·rw [h1] at hb;cases hb;exact A9 hheap
theorem ZX {σ' : Nat → Option (Nat × Nat)} {new : Nat → Prop} {id : Nat} (m : Mem P n0 β σ s w) (x : Ext P new β σ s w β σ' s' w')
    (hB:∀ n e',s'.getB n=some e'→∃ e,s.getB n=some e∧nL P n0 β σ' s' w' n e')
    (hH:∀ n h',n≠id→s'.getH n=some h'→∃ h,s.getH n=some h∧h'.e=h.e∧h'.l=h.l∧h'.nw=h.nw∧(h'.frozen=false→h.frozen=false)∧σ' n=σ n)
    (hHw:∀ n h blk cap,n≠id→s'.getH n=some h→σ n=some (blk,cap)→w'.heap[blk]?=w.heap[blk]?)
    (hid:∀ h,s'.getH id=some h→RelH P n0 β σ' s' w' id h)
    (hun:∀ blk cap,σ' id=some (blk,cap)→(∀ n e,s'.getB n=some e→β n≠some blk)∧(∀ n h cap',n≠id→s'.getH n=some h→σ n≠some (blk,cap'))) :
    Mem P n0 β σ' s' w' where
  B n e he:=by
    exact (hB n e he).choose_spec.2
  H n h hh:=by
    by_cases hni:n=id
    · subst hni;exact hid h hh
    · obtain ⟨h0,hh0,h1,h2,h3,h4,h5⟩:=hH n h hni hh
      rcases m.H n h0 hh0 with ⟨t,ts,ht,hts,hrl,hm⟩ | hM
      case inr=>exact .inr (hM.view h1 h2 h5 (fun blk cap hb=>hHw n h blk cap hni hh hb) (fun _ _ _ ho=>by rw [h3];exact ho))
      refine .inl ⟨t,ts,by rw [h1];exact ht,by rw [h1];exact hts,by rw [h2];exact hrl,?_⟩
      rcases hm with ⟨ha,hb⟩ | ⟨blk,cap,cells,el,ha,hheap,hel,hc,hd,hnw,v,hv,hrep⟩
      · exact .inl ⟨by rw [h5];exact ha,by rw [h2];exact hb⟩
      · refine .inr ⟨blk,cap,cells,el,by rw [h5];exact ha,(hHw n h blk cap hni hh ha).trans hheap,by rw [h1];exact hel,hc,by rw [h2];exact hd,by rw [h3];exact hnw,v,by rw [h2];exact hv,fun i j t' hi hj=>?_⟩;rw [h2] at hi ⊢;rw [h3];exact x.rep (hrep i j t' hi hj)
  uB b b' e e' blk h h' hb hb':=by
    obtain ⟨e0,h0,_⟩:=hB b e h;obtain ⟨e1,h1,_⟩:=hB b' e' h';exact m.uB b b' e0 e1 blk h0 h1 hb hb'
  uH i i' e e' blk cap cap' h h' hi hi':=by
    by_cases h1:i=id<;>by_cases h2:i'=id
    · rw [h1,h2]
    · rw [h1] at hi;obtain ⟨h0,hh0,_,_,_,_,h5⟩:=hH i' e' h2 h';rw [h5] at hi';exact ((hun blk cap hi).2 i' e' cap' h2 h' hi').elim
    · rw [h2] at hi';obtain ⟨h0,hh0,_,_,_,_,h5⟩:=hH i e h1 h;rw [h5] at hi;exact ((hun blk cap' hi').2 i e cap h1 h hi).elim
    · obtain ⟨h0,hh0,_,_,_,_,h5⟩:=hH i e h1 h;obtain ⟨h0',hh0',_,_,_,_,h5'⟩:=hH i' e' h2 h';rw [h5] at hi;rw [h5'] at hi';exact m.uH i i' h0 h0' blk cap cap' hh0 hh0' hi hi'
  uX b e i h blk cap hb hi h1 h2:=by
    obtain ⟨e0,h0,_⟩:=hB b e hb
    by_cases h3:i=id
    · rw [h3] at h2;exact (hun blk cap h2).1 b e hb h1
    · obtain ⟨h4,hh4,_,_,_,_,h5⟩:=hH i h h3 hi;rw [h5] at h2;exact m.uX b e0 i h4 blk cap h0 hh4 h1 h2
theorem YC {σ' : Nat → Option (Nat × Nat)} {new : Nat → Prop} {id : Nat} (m : Mem P n0 β σ s w) (x : Ext P new β σ s w β σ' s' w')
    (hB:∀ n e',s'.getB n=some e'→∃ e,s.getB n=some e∧e'.cs=e.cs∧∀ k∈AF e.cs,¬ new k)
    (hBw:∀ n e blk,s'.getB n=some e→β n=some blk→w'.heap[blk]?=w.heap[blk]?)
    (hH:∀ n h',n≠id→s'.getH n=some h'→∃ h,s.getH n=some h∧h'.e=h.e∧h'.l=h.l∧h'.nw=h.nw∧(h'.frozen=false→h.frozen=false)∧σ' n=σ n)
    (hHw:∀ n h blk cap,n≠id→s'.getH n=some h→σ n=some (blk,cap)→w'.heap[blk]?=w.heap[blk]?)
    (hid:∀ h,s'.getH id=some h→RelH P n0 β σ' s' w' id h)
    (hun:∀ blk cap,σ' id=some (blk,cap)→(∀ n e,s'.getB n=some e→β n≠some blk)∧(∀ n h cap',n≠id→s'.getH n=some h→σ n≠some (blk,cap'))) :
    Mem P n0 β σ' s' w':=by
  refine ZX (id:=id) m x (fun n e he=>?_) hH hHw hid hun;obtain ⟨e0,h0,hc,hn⟩:=hB n e he;obtain ⟨blk,cells,el,hb,hheap,hrel,hbh⟩:=m.B n e0 h0;exact ⟨e0,h0,blk,cells,el,hb,(hBw n e blk he hb).trans hheap,x.relCs (by rw [hc];exact hn) (by rw [hc];exact hrel),by rw [hc];exact hbh⟩
theorem Mem.grow (m:Mem P n0 β σ s w) (g:Grow w w'):Mem P n0 β σ s w' where
 B n e he:=by
  obtain ⟨blk,cells,el,hb,hheap,hrel,hbh⟩:=m.B n e he;exact ⟨blk,cells,el,hb,(g.old blk (A9 hheap)).trans hheap,(g.ext P (fun _=>False) β σ s).relCs (fun _ _=>id) hrel,hbh⟩
 H n h hh:=by
  rcases m.H n h hh with ⟨t,ts,ht,hts,hrl,hm⟩ | hM
  case inr=>exact .inr (hM.view rfl rfl rfl (fun blk cap hb=>g.old blk (m.ltH hh hb)) (fun _ _ _ ho=>ho))
  refine .inl ⟨t,ts,ht,hts,hrl,?_⟩
  rcases hm with hm | ⟨blk,cap,cells,el,ha,hheap,hel,hc,hd,hnw,v,hv,hrep⟩
  ·exact .inl hm
  ·exact .inr ⟨blk,cap,cells,el,ha,(g.old blk (A9 hheap)).trans hheap,hel,hc,hd,hnw,v,hv,fun i j t' hi hj=>(g.ext P (fun _=>False) β σ s).rep (hrep i j t' hi hj)⟩
 uB:=m.uB
 uH:=m.uH
 uX:=m.uX
structure Tidy (a:Act) (new:Nat→Prop) (s s':St0 E N):Prop where
 fresh:∀ n,Fresh a s n→¬ new n→Fresh a s' n
 cleanB:∀ n e,s'.getB n=some e→e.dirty=false→s.getB n=some e
 cleanH:∀ n e,s'.getH n=some e→e.dirty=false→s.getH n=some e
def PreOK (s:St0 E N) (fr:List (Nat×Option (HEnt (std E N)))):Prop :=
 ∀ n v,(n,v)∈fr→v=none∨∃ h,s.getH n=some h∧v=some { h with frozen:=true,dirty:=true }
theorem FrOK.pre {fr:List (Nat×Option (HEnt (std E N)))} (h:FrOK s fr):PreOK s fr:=fun n v hm=>.inr (h n v hm)
theorem nl {fr : List (Nat × Option (HEnt (std E N)))} : ∀ {l : List (Nat × HEnt (std E N))}, (∀ n v, (n, v) ∈ fr → v = none ∨ ∃ h, AH s.hp n = some h ∧ v = some { h with frozen := true, dirty := true }) →
    (∀ k h',AH l k=some h'→∃ h,AH s.hp k=some h∧(h'=h∨h'={ h with frozen:=true,dirty:=true })) →
    ∀ k h',AH (BA l fr) k=some h'→∃ h,AH s.hp k=some h∧(h'=h∨h'={ h with frozen:=true,dirty:=true }):=by
  induction fr with
  | nil=>intro l _ hl k h' hk;exact hl k h' hk
  | cons x fr ih =>
    intro l hfr hl k h' hk;obtain ⟨n,v⟩:=x;simp only [BA] at hk;refine ih (fun n v hm=>hfr n v (zzm _ hm)) (fun k h' hk=>?_) k h' hk;rw [BB] at hk
    split at hk
    · rename_i hkn
      rcases hfr n v zzl with h2 | ⟨h,h1,h2⟩
      · rw [h2] at hk;cases hk
      · rw [h2] at hk;cases hk;exact ⟨h,by rw [hkn];exact h1,.inr rfl⟩
    · exact hl k h' hk
theorem PreOK.get {fr : List (Nat × Option (HEnt (std E N)))} (h : PreOK s fr) {wr : Wr (std E N)} (hw : wr.hs = fr) (k : Nat) (h' : HEnt (std E N)) (hk : (s.apply wr).getH k = some h') :
    ∃ h,s.getH k=some h∧(h'=h∨h'={ h with frozen:=true,dirty:=true }):=by
  unfold State.apply State.getH at hk;rw [hw] at hk;exact nl h (fun k h' hk=>⟨h',hk,.inl rfl⟩) k h' hk
theorem PreOK.sub {fr:List (Nat×Option (HEnt (std E N)))} (h:PreOK s fr) {wr:Wr (std E N)} (hw:wr.hs=fr) (hb:wr.bs=[]):Sub s (s.apply wr) where
 b n e he:=⟨e,by rw [State.getB_apply0 s wr hb] at he;exact he,rfl⟩
 h n h' hk:=by
  obtain ⟨h0,hh,h1⟩:=h.get hw n h' hk;refine ⟨h0,hh,?_⟩
  rcases h1 with rfl | rfl
  ·exact ⟨rfl,rfl,rfl,id⟩
  ·exact ⟨rfl,rfl,rfl,fun h=>by cases h⟩
theorem dV (m : Mem P n0 β σ s w) {id : Nat} (hf : Fresh a s id) {fr : List (Nat × Option (HEnt (std E N)))} (hfr : PreOK s fr) {h : HEnt (std E N)} {wr : Wr (std E N)}
    (ht0:wr.ts=[]) (hb:wr.bs=[]) (hh:wr.hs=fr++[(id,some h)]) (hd:h.dirty=true) (hz:h.frozen=false) {w1:World} (g:Grow w w1) {cells:Array Value} {cap:Nat} {t:TypeId} {ts:List TypeId}
    (ht:AJ P t=.sl h.e) (hts:AO P h.e=some ts) (hrl:∀ r∈h.l,r.length=ts.length) (hsz:cells.size=cap * ts.length) (hcap:h.l.length≤cap) (hn0:n0.n≤w.heap.size)
    (v:Nat→Nat→Value) (hv:∀ i j,i<h.l.length→j<ts.length→cells[i * ts.length+j]?=some (v i j))
    (hrep:∀ i j t',i<h.l.length→ts[j]?=some t'→Rep P w (StB n0 β σ (s.apply { hs:=fr }) h.nw) t' (v i j) (AB h.l i j)) :
    Mem P n0 β (upd σ id (some (w1.heap.size,cap))) (s.apply wr) (w1.alloc (.cells cells h.e)) ∧
      Ext P (·=id) β σ s w β (upd σ id (some (w1.heap.size,cap))) (s.apply wr) (w1.alloc (.cells cells h.e))∧Tidy a (·=id) s (s.apply wr) ∧
      (s.apply wr).getH id=some h:=by
  have gB:=fun n=>State.getB_apply0 s wr hb n
  have gs:∀ n,(s.apply wr).getH n=if n=id then some h else (s.apply { hs:=fr }).getH n:=fun n=>by
    unfold State.apply State.getH;simp only [hh,EA,BA];exact BB _ _ _ _
  have old:∀ n e,s.getH n=some e→n≠id:=fun n e he h=>(hf.h n e he h.symm)
  have fget:∀ n h',n≠id→(s.apply wr).getH n=some h'→∃ h0,s.getH n=some h0∧(h'=h0∨h'={ h0 with frozen:=true,dirty:=true }):=fun n h' hn he=>by
    rw [gs,if_neg hn] at he;exact hfr.get rfl n h' he
  have gg:=g.trans (Grow.alloc w1 (.cells cells h.e));have x:Ext P (·=id) β σ s w β (upd σ id (some (w1.heap.size,cap))) (s.apply wr) (w1.alloc (.cells cells h.e)):=by
    refine ⟨gg.os,gg.tape,gg.output,gg.size,fun b hb _=>gg.old b hb,fun b hb=>?_,fun b e he hn=>?_,fun n e he hn=>?_⟩
    · rcases hb with ⟨n,e,he,hb⟩ | ⟨n,e,cap',he,hfz,hb⟩
      · rw [gB] at he;exact .inl (.inl ⟨n,e,he,hb⟩)
      · by_cases hid:n=id
        · rw [hid,A3] at hb;cases hb;exact .inr g.size
        · obtain ⟨h0,hh0,h1⟩:=fget n e hid he;rw [Az _ _ hid] at hb
          rcases h1 with rfl | rfl
          · exact .inl (.inr ⟨n,e,cap',hh0,hfz,hb⟩)
          · cases hfz
    · rw [gB] at he;exact ⟨⟨e,he⟩,rfl⟩
    · obtain ⟨h0,hh0,h1⟩:=fget n e hn he;refine ⟨h0,hh0,Az _ _ hn,?_⟩
      rcases h1 with rfl | rfl<;>exact ⟨rfl,fun _=>rfl⟩
  have hget:(s.apply wr).getH id=some h:=by rw [gs,if_pos rfl]
  refine ⟨YC (id:=id) m x (fun n e he=>?_) (fun n e blk he hb=>?_) (fun n h' hn he=>?_) (fun n h' blk cap' hn he hs=>?_) (fun h' he=>?_) (fun blk cap' hs=>?_),x,⟨fun n hfn hn=>?_,fun n e he hd'=>?_,fun n e he hd'=>?_⟩,hget⟩
  · rw [gB] at he;exact ⟨e,he,rfl,fun k hk h=>(hf.b n e he).2 (h▸hk)⟩
  · rw [gB] at he;exact gg.old blk (m.ltB he hb)
  · obtain ⟨h0,hh0,h1⟩:=fget n h' hn he;refine ⟨h0,hh0,?_⟩
    rcases h1 with rfl | rfl
    · exact ⟨rfl,rfl,rfl,fun h=>h,Az _ _ hn⟩
    · exact ⟨rfl,rfl,rfl,(fun h=>by cases h),Az _ _ hn⟩
  · obtain ⟨h0,hh0,_⟩:=fget n h' hn he;exact gg.old blk (m.ltH hh0 hs)
  · rw [hget] at he;cases he;have x1:Ext P (·=id) β σ (s.apply { hs:=fr }) w β (upd σ id (some (w1.heap.size,cap))) (s.apply wr) (w1.alloc (.cells cells h.e)):=by
      refine ⟨gg.os,gg.tape,gg.output,gg.size,fun b hb _=>gg.old b hb,fun b hb=>?_,fun b e he hn=>?_,fun n e he hn=>?_⟩
      · rcases hb with ⟨n,e,he,hb⟩ | ⟨n,e,cap',he,hfz,hb⟩
        · rw [gB] at he;exact .inl (.inl ⟨n,e,by rw [State.getB_apply0 s _ rfl];exact he,hb⟩)
        · by_cases hid:n=id
          · rw [hid,A3] at hb;cases hb;exact .inr g.size
          · rw [gs,if_neg hid] at he;rw [Az _ _ hid] at hb;exact .inl (.inr ⟨n,e,cap',he,hfz,hb⟩)
      · rw [gB] at he;exact ⟨⟨e,by rw [State.getB_apply0 s _ rfl];exact he⟩,rfl⟩
      · rw [gs,if_neg hn] at he;exact ⟨e,he,Az _ _ hn,rfl,fun _=>rfl⟩
    exact .inl ⟨t,ts,ht,hts,hrl,.inr ⟨w1.heap.size,cap,cells,h.e,A3 _ _ _,Pb _ _,rfl,hsz,hcap,Old.new (Nat.le_trans hn0 g.size),v,hv,fun i j t' hi hj=>x1.rep (hrep i j t' hi hj)⟩⟩
  · rw [A3] at hs;cases hs;refine ⟨fun n e he hb=>?_,fun n h' cap'' hn he hs=>?_⟩
    · rw [gB] at he;have:=m.ltB he hb;have:=g.size;omega
    · obtain ⟨h0,hh0,_⟩:=fget n h' hn he;have:=m.ltH hh0 hs;have:=g.size;omega
  · refine ⟨fun k tv hk=>?_,fun k e he=>?_,fun k e he=>?_⟩
    · rw [State.getT_apply0 s wr ht0] at hk;exact hfn.t k tv hk
    · rw [gB] at he;exact hfn.b k e he
    · by_cases hk:k=id
      · exact fun h=>hn (h.trans hk)
      · obtain ⟨h0,hh0,_⟩:=fget k e hk he;exact hfn.h k h0 hh0
  · rw [gB] at he;exact he
  · by_cases hk:n=id
    · rw [hk,hget] at he;cases he;rw [hd] at hd';cases hd'
    · obtain ⟨h0,hh0,h1⟩:=fget n e hk he
      rcases h1 with rfl | rfl
      · exact hh0
      · cases hd'
theorem kc {id : Nat} {cs : List (AC0 E N)} (hcn : ∀ n, Fresh a s n → n ∉ AF cs) {wr : Wr (std E N)} (ht0 : wr.ts = []) (hb : wr.bs = [(id, some { cs, dirty := true })]) (hh : wr.hs = []) :
    Tidy a (·=id) s (s.apply wr) where
  fresh n hf hn:=by
    refine ⟨fun k tv hk=>?_,fun k e he=>?_,fun k e he=>?_⟩
    · rw [State.getT_apply0 s wr ht0] at hk;exact hf.t k tv hk
    · rw [State.getB_apply1 s id _ wr hb] at he
      by_cases hk:k=id
      · rw [if_pos hk] at he;cases he;exact ⟨fun h=>hn (h.trans hk),hcn n hf⟩
      · rw [if_neg hk] at he;exact hf.b k e he
    · rw [State.getH_apply0 s wr hh] at he;exact hf.h k e he
  cleanB n e he hd:=by
    rw [State.getB_apply1 s id _ wr hb] at he
    by_cases hk:n=id
    · rw [if_pos hk] at he;cases he;cases hd
    · rw [if_neg hk] at he;exact he
  cleanH n e he hd:=by rw [State.getH_apply0 s wr hh] at he;exact he
theorem Xy (m : Mem P n0 β σ s w) {c : AC0 E N} {v : Value} {l : AR} {fr : List (Nat × Option (HEnt (std E N)))} {nw : Bool} {k k' : Nat} (hc : RelC P n0 β σ s w c v)
    (h:RM.run s (dN (O:=std E N) c) k=.ok ((l,fr,nw),k')):FrOK s fr∧(∀ x∈fr,x.1∈c.names) ∧
      ∀ (t:TypeId) (s1:St0 E N),BD (AJ P t) c=true→Sub s s1→(∀ x∈fr,∀ h,s1.getH x.1=some h→h.frozen=true)→(∀ x∈fr,∃ h,s1.getH x.1=some h) →
        ∀ nw':Bool,(nw'=true→nw=true)→Rep P w (StB n0 β σ s1 nw') t v l.pv:=by
  cases c with
  | int q i =>
    have hr:=zzc h;simp only [Prod.mk.injEq] at hr;obtain ⟨rfl,rfl,rfl⟩:=hr;refine ⟨fun _ _ hm=>by simp at hm,fun _ hm=>by simp at hm,fun t s1 hk _ _ _ nw' _=>?_⟩;have hv:v=.int q i:=hc;subst hv;unfold BD at hk
    split at hk
    · rename_i q2 q3 i2 hl e;cases e;have:=GJ.1 hk;subst this;exact .int hl
    all_goals (rename_i e;first | cases e | cases hk)
  | bool b =>
    have hr:=zzc h;simp only [Prod.mk.injEq] at hr;obtain ⟨rfl,rfl,rfl⟩:=hr;refine ⟨fun _ _ hm=>by simp at hm,fun _ hm=>by simp at hm,fun t s1 hk _ _ _ nw' _=>?_⟩;have hv:v=.bool b:=hc;subst hv;cases hl:AJ P t<;>rw [hl] at hk<;>simp [BD] at hk;exact .bool hl
  | str x =>
    have hr:=zzc h;simp only [Prod.mk.injEq] at hr;obtain ⟨rfl,rfl,rfl⟩:=hr;refine ⟨fun _ _ hm=>by simp at hm,fun _ hm=>by simp at hm,fun t s1 hk _ _ _ nw' _=>?_⟩;have hv:v=.string x:=hc;subst hv;cases hl:AJ P t<;>rw [hl] at hk<;>simp [BD] at hk;exact .str hl
  | nil e =>
    have hr:=zzc h;simp only [Prod.mk.injEq] at hr;obtain ⟨rfl,rfl,rfl⟩:=hr;refine ⟨fun _ _ hm=>by simp at hm,fun _ hm=>by simp at hm,fun t s1 hk _ _ _ nw' _=>?_⟩;obtain ⟨t0,ts,ht0,hts,av,rfl⟩:=hc;cases hl:AJ P t<;>rw [hl] at hk<;>simp [BD] at hk;rename_i e2;subst hk;exact .sl (fun _ _=>undef) hl hts rfl (by simp) (Nat.le_refl _) (.inl rfl) (fun i j t' hi=>by omega)
  | imm e nw0 l0 =>
    have hr:=zzc h;simp only [Prod.mk.injEq] at hr;obtain ⟨rfl,rfl,rfl⟩:=hr;refine ⟨fun _ _ hm=>by simp at hm,fun _ hm=>by simp at hm,fun t s1 hk hs _ _ nw' hnw=>?_⟩;obtain ⟨t0,ht0,hrep⟩:=hc;cases hl:AJ P t<;>rw [hl] at hk<;>simp [BD] at hk;rename_i e2;subst hk;have h2:=hrep.st (St':=StB n0 β σ s1 nw') (fun b hb=>⟨fun hm=>hb.1 (hs.inM hm),hb.2.mono hnw⟩);cases h2 with
    | sl v h hts hl' hr hc hm hv=>exact .sl v hl (by rw [ht0] at h;cases h;exact hts) hl' hr hc hm hv
  | own e id =>
    obtain ⟨k1,h⟩:=zzf h;cases hh:s.getH id with
    | none=>rw [hh] at h;exact (zzb h).elim
    | some en =>
      rw [hh] at h;have hr:=zzc h;simp only [Prod.mk.injEq] at hr;obtain ⟨rfl,rfl,rfl⟩:=hr;refine ⟨fun n v hm=>?_,fun x hm=>?_,fun t s1 hk hs hfz hex nw' hnw=>?_⟩
      · simp only [List.mem_singleton,Prod.mk.injEq] at hm;obtain ⟨rfl,rfl⟩:=hm;exact ⟨en,hh,rfl⟩
      · simp only [List.mem_singleton] at hm;subst hm;simp [AC.names]
      · obtain ⟨⟨te,hte,_⟩,hown⟩:=hc;obtain ⟨he,ho⟩:=hown en hh;obtain ⟨h1,hh1⟩:=hex _ zzl;have hf1:=hfz _ zzl h1 hh1;obtain ⟨h2,hh2,q1,q2,q3,_⟩:=hs.h id h1 hh1;rw [hh] at hh2;cases hh2;obtain ⟨t0,ht0,hrep⟩:=l8 (hs.mem m) hh1 hf1 (v:=v) ⟨te,by rw [q1,he];exact hte⟩ (by rw [q2];exact ho);rw [q1,he] at ht0;rw [q2,q3] at hrep;cases hl:AJ P t<;>rw [hl] at hk<;>simp [BD] at hk;rename_i e2;subst hk;have h2:=hrep.st (St':=StB n0 β σ s1 nw') (fun b hb=>⟨hb.1,hb.2.mono hnw⟩);cases h2 with
        | sl v h hts hl' hr hc hm hv=>exact .sl v hl (by rw [ht0] at h;cases h;exact hts) hl' hr hc hm hv
  | _=>exact (zzb h).elim
def Frz (s1:St0 E N) (fr:List (Nat×Option (HEnt (std E N)))):Prop:=∀ x∈fr,∃ h,s1.getH x.1=some h∧h.frozen=true
theorem FrOK.frz {fr:List (Nat×Option (HEnt (std E N)))} (h:FrOK s fr) {wr:Wr (std E N)} (hw:wr.hs=fr):Frz (s.apply wr) fr:=by
 intro x hx;obtain ⟨h0,hh0,hv⟩:=h x.1 x.2 hx;refine ⟨{ h0 with frozen:=true,dirty:=true },?_,rfl⟩;unfold State.apply State.getH;rw [hw];exact Tb (fun y hy he=>by
  obtain ⟨h1,hh1,hv1⟩:=h y.1 y.2 hy;rw [he,hh0] at hh1;cases hh1;exact hv1) ⟨x,hx,rfl⟩
theorem Frz.left {s1:St0 E N} {f1 f2:List (Nat×Option (HEnt (std E N)))} (h:Frz s1 (f1++f2)):Frz s1 f1:=fun x hx=>h x (List.mem_append_left _ hx)
theorem Frz.right {s1:St0 E N} {f1 f2:List (Nat×Option (HEnt (std E N)))} (h:Frz s1 (f1++f2)):Frz s1 f2:=fun x hx=>h x (List.mem_append_right _ hx)
theorem FrOK.append {f1 f2:List (Nat×Option (HEnt (std E N)))} (h1:FrOK s f1) (h2:FrOK s f2):FrOK s (f1++f2) :=
 fun n v hm=>(List.mem_append.1 hm).elim (h1 n v) (h2 n v)
theorem Uh (m : Mem P n0 β σ s w) : ∀ {cs : List (AC0 E N)} {vs : List Value} {ls : List AR} {fr : List (Nat × Option (HEnt (std E N)))} {nw : Bool} {k k' : Nat}, RelCs P n0 β σ s w cs vs →
    RM.run s (LL (O:=std E N) cs) k=.ok ((ls,fr,nw),k')→FrOK s fr∧(∀ x∈fr,x.1∈AF cs)∧ls.length=cs.length ∧
      ∀ (ts:List TypeId) (s1:St0 E N),AX P ts cs=true→Sub s s1→Frz s1 fr→∀ nw':Bool,(nw'=true→nw=true) →
        ∀ (q:Nat) (t':TypeId) (v:Value),ts[q]?=some t'→vs[q]?=some v→Rep P w (StB n0 β σ s1 nw') t' v (AA (ls.map Leaf.pv) q)
  | [],[],ls,fr,nw,k,k',_,h=>by
    have hr:=zzc h;simp only [Prod.mk.injEq] at hr;obtain ⟨rfl,rfl,rfl⟩:=hr;exact ⟨fun _ _ hm=>by simp at hm,fun _ hm=>by simp at hm,rfl,fun ts s1 _ _ _ nw' _ q t' v _ hv=>by simp at hv⟩
  | c::cs,v::vs,ls,fr,nw,k,k',hc,h=>by
    obtain ⟨⟨l,f1,n1⟩,k1,h1,h2⟩:=zza h;obtain ⟨⟨ls2,f2,n2⟩,k2,h3,h4⟩:=zza h2;have hr:=zzc h4;simp only [Prod.mk.injEq] at hr;obtain ⟨rfl,rfl,rfl⟩:=hr;obtain ⟨a1,a2,a3⟩:=Xy m hc.1 h1;obtain ⟨b1,b2,b4,b3⟩:=Uh m hc.2 h3;refine ⟨a1.append b1,fun x hx=>?_,by simp [b4],fun ts s1 hk hs hf nw' hnw q t' v' hq hv=>?_⟩
    · rcases List.mem_append.1 hx with h | h
      · simp [AF,a2 x h]
      · simp [AF,b2 x h]
    · cases ts with
      | nil=>simp at hq
      | cons t ts =>
        simp only [AX] at hk
        split at hk
        · rename_i hk1;cases q with
          | zero =>
            simp at hq hv;subst hq;subst hv;exact a3 t s1 hk1 hs (fun x hx h hh=>by obtain ⟨h',e1,e2⟩:=hf.left x hx;rw [e1] at hh;cases hh;exact e2)
              (fun x hx=>by obtain ⟨h',e1,_⟩:=hf.left x hx;exact ⟨h',e1⟩) nw' (fun e=>by have:=hnw e;simp at this;exact this.1)
          | succ q =>
            have:=b3 ts s1 hk hs hf.right nw' (fun e=>by have:=hnw e;simp at this;exact this.2) q t' v' (by simpa using hq) (by simpa using hv);simpa [AA] using this
        · cases hk
  | [],_::_,_,_,_,_,_,hc,_=>hc.elim
  | _::_,[],_,_,_,_,_,hc,_=>hc.elim
theorem fR (m : Mem P n0 β σ s w) : ∀ {css : List (List (AC0 E N))} {vss : List (List Value)} {ls : List (List AR)} {fr : List (Nat × Option (HEnt (std E N)))} {nw : Bool} {k k' : Nat},
    css.length=vss.length→(∀ (i:Nat) (cs:List (AC0 E N)) (vs:List Value),css[i]?=some cs→vss[i]?=some vs→RelCs P n0 β σ s w cs vs) →
    RM.run s (jR (O:=std E N) css) k=.ok ((ls,fr,nw),k')→FrOK s fr∧(∀ x∈fr,∃ cs∈css,x.1∈AF cs)∧ls.length=css.length∧(∀ (i:Nat) (l:List AR) (cs:List (AC0 E N)),ls[i]?=some l→css[i]?=some cs→l.length=cs.length) ∧
      ∀ (ts:List TypeId) (s1:St0 E N),OC P ts css=true→Sub s s1→Frz s1 fr→∀ nw':Bool,(nw'=true→nw=true) →
        ∀ (i q:Nat) (t':TypeId) (vs:List Value) (v:Value),vss[i]?=some vs→ts[q]?=some t'→vs[q]?=some v→Rep P w (StB n0 β σ s1 nw') t' v (AB (ls.map (·.map Leaf.pv)) i q)
  | [],[],ls,fr,nw,k,k',_,_,h=>by
    have hr:=zzc h;simp only [Prod.mk.injEq] at hr;obtain ⟨rfl,rfl,rfl⟩:=hr;exact ⟨fun _ _ hm=>by simp at hm,fun _ hm=>by simp at hm,rfl,fun i l cs hl=>by simp at hl,fun ts s1 _ _ _ nw' _ i q t' vs v hv=>by simp at hv⟩
  | c::cs,v::vs,ls,fr,nw,k,k',hlen,hc,h=>by
    obtain ⟨⟨l,f1,n1⟩,k1,h1,h2⟩:=zza h;obtain ⟨⟨ls2,f2,n2⟩,k2,h3,h4⟩:=zza h2;have hr:=zzc h4;simp only [Prod.mk.injEq] at hr;obtain ⟨rfl,rfl,rfl⟩:=hr;obtain ⟨a1,a2,a4,a3⟩:=Uh m (hc 0 c v rfl rfl) h1;obtain ⟨b1,b2,b4,b5,b3⟩:=fR m (by simpa using hlen) (fun i c v hc1 hv1=>hc (i+1) c v (by simpa using hc1) (by simpa using hv1)) h3;refine ⟨a1.append b1,fun x hx=>?_,by simp [b4],fun i l' c' hl hc'=>?_,fun ts s1 hk hs hf nw' hnw i q t' vs' v' hvs hq hv=>?_⟩
    · rcases List.mem_append.1 hx with h | h
      · exact ⟨c,zzl,a2 x h⟩
      · obtain ⟨c',hc',hn⟩:=b2 x h;exact ⟨c',zzm _ hc',hn⟩
    · cases i with
      | zero=>simp at hl hc';subst hl;subst hc';exact a4
      | succ i=>exact b5 i l' c' (by simpa using hl) (by simpa using hc')
    · simp only [OC] at hk
      split at hk
      · rename_i hk1;cases i with
        | zero =>
          simp at hvs;subst hvs;have:=a3 ts s1 hk1 hs hf.left nw' (fun e=>by have:=hnw e;simp at this;exact this.1) q t' v' hq hv;simpa [AB,Aa] using this
        | succ i =>
          have:=b3 ts s1 hk hs hf.right nw' (fun e=>by have:=hnw e;simp at this;exact this.2) i q t' vs' v' (by simpa using hvs) hq hv;simpa [AB,Aa] using this
      · cases hk
  | [],_::_,_,_,_,_,_,hl,_,_=>by simp at hl
  | _::_,[],_,_,_,_,_,hl,_,_=>by simp at hl
theorem Hu {α:Type} (n:Nat):∀ (k:Nat) (l:List α),(Hv n k l).length=k
 | 0,_=>rfl
 | k+1,l=>by simp [Hv,Hu n k]
theorem U8 {α:Type} (n:Nat):∀ (k i:Nat) (l:List α),i<k→(Hv n k l)[i]?=some ((l.drop (i * n)).take n)
 | k+1,0,l,_=>by simp [Hv]
 | k+1,i+1,l,h=>by
  simp only [Hv,List.getElem?_cons_succ];rw [U8 n k i _ (by omega),List.drop_drop];congr 3;rw [Nat.add_mul,Nat.one_mul,Nat.add_comm]
theorem Yw {α:Type} (k:Nat) (l:List α):(Dr k l).length=k * l.length:=by
 induction k with
 | zero=>simp [Dr]
 | succ k ih=>simp [Dr,ih,Nat.add_mul,Nat.add_comm]
theorem Zd {α:Type} {l:List α} (hl:0<l.length):∀ (k i:Nat),i<k * l.length→(Dr k l)[i]?=l[i % l.length]?
 | 0,i,h=>by simp at h
 | k+1,i,h=>by
  simp only [Dr]
  by_cases hi:i<l.length
  ·rw [List.getElem?_append_left hi,Nat.mod_eq_of_lt hi]
  ·rw [List.getElem?_append_right (by omega),Zd hl k (i - l.length) (by rw [Nat.add_mul,Nat.one_mul] at h;omega)];congr 1
   conv=>rhs;rw [show i=i - l.length+l.length by omega]
   rw [Nat.add_mod_right]
theorem qP {cs:List (AC0 E N)} {vs:List Value} (h:RelCs P n0 β σ s w cs vs) (k:Nat):RelCs P n0 β σ s w (Dr k cs) (Dr k vs):=by
 induction k with
 | zero=>trivial
 | succ k ih=>exact RelCs.append h ih
theorem mB (z:Array Value) (hz:0<z.size) (k:Nat):((Array.range (k * z.size)).map (z[· % z.size]!)).toList=Dr k z.toList:=by
 apply List.ext_getElem?;intro i
 by_cases hi:i<k * z.size
 ·have hm:i % z.size<z.size:=Nat.mod_lt _ hz;rw [Zd (by simpa using hz) k i (by simpa using hi)];simp [hi,hm,getElem!_pos,List.getElem?_range]
 ·rw [List.getElem?_eq_none (by simp;omega),List.getElem?_eq_none (by rw [Yw];simp;omega)]
theorem MQ {o:Oper} {x:Sem Value} {z:Value} {w1:World} (he:execOp a.eval o=(do pure (.value (← x)))) (hx:x.run P w=.ok z w1):(execOp a.eval o).run P w=.ok (.value z) w1:=by
 rw [he];simp [hx]
end
section
variable {E:Env} {N:Nat} {P:Program} {n0:Nz} {nt:Nat} {β:Nat→Option Nat} {σ:Nat→Option (Nat×Nat)} {s s':St0 E N} {a:Act} {w w':World}
def PR (P:Program) (n0:Nz) (β:Nat→Option Nat) (σ:Nat→Option (Nat×Nat)) (s:St0 E N) (a:Act) (w:World) (o:Oper) (id:Nat) (c:AC0 E N) (wr:Wr (std E N)):Prop :=
 ∃ z β' σ' w',(execOp a.eval o).run P w=.ok (.value z) w'∧Mem P n0 β' σ' (s.apply wr) w'∧Ext P (·=id) β σ s w β' σ' (s.apply wr) w'∧Tidy a (·=id) s (s.apply wr) ∧
  RelC P n0 β' σ' (s.apply wr) w' c z∧(∀ n,Fresh a s n→n≠id→n∉c.names)∧wr.ts=[]
theorem jm (hs : Sim P n0 nt β σ s a w) {id : Nat} (hid : Fresh a s id) {o : Oper} {T : TypeId} {cs : List (AC0 E N)} {v : Value}
    (hr:RelCs P n0 β σ s w cs v.cells.toList) (hcn:∀ n,Fresh a s n→n∉AF cs) (hbh:∀ blk,BH blk v.cells T cs)
    (hex:(execOp a.eval o).run P w=.ok (.value (.pointer (some ⟨w.heap.size,0,none⟩))) (w.alloc (.cells v.cells T))) :
    PR P n0 β σ s a w o id (.ptr id 0) { bs:=[(id,some { cs,dirty:=true })] }:=by
  obtain ⟨m1,x1⟩:=tw hs.M hid hr (hcn id hid) T (hbh _) (wr:={ bs:=[(id,some { cs,dirty:=true })] }) rfl rfl;refine ⟨_,_,σ,_,hex,m1,x1,kc hcn rfl rfl rfl,⟨w.heap.size,rfl,fun e he=>A3 _ _ _⟩,fun n _ hn=>by simpa [AC.names] using hn,rfl⟩
theorem MU {id blk cap : Nat} {h : HEnt (std E N)} {σ' : Nat → Option (Nat × Nat)} {s' : St0 E N} {w' : World} {T0 : TypeId} (hsl : AJ P T0 = .sl h.e) (hg : s'.getH id = some h) (hs : σ' id = some (blk, cap)) {n : Nat} (hn : n = h.l.length) :
    RelC P n0 β σ' s' w' (.own h.e id) (.slice (some ⟨blk,0,none⟩) n cap) :=
  ⟨⟨T0,hsl,_,_,_,rfl⟩,fun h2 hh2=>by rw [hg] at hh2;cases hh2;exact ⟨rfl,.inl ⟨blk,cap,hs,by rw [hn]⟩⟩⟩
theorem SZ (hs : Sim P n0 nt β σ s a w) {ctx : List (Nat × Bool)} (hf : Facts a ctx) {id : Nat} (hid : Fresh a s id) {o : Oper} {T : TypeId} {len : Nat} {parts : Array (Nat × Operand)}
    (hop:o.op=.buildSlice T len parts) {as:List Bool} {c:AC0 E N} {wr:Wr (std E N)} {m m':Nat} (h:RM.run s (I3 P ctx id (.buildSlice T len parts)) m=.ok ((as,c,wr),m')) :
    PR P n0 β σ s a w o id c wr:=by
  simp only [I3] at h
  split at h
  · exact (zzb h).elim
  · rename_i e he
    split at h
    · rename_i z ts hz hts;obtain ⟨_,m1,h1,h2⟩:=zza h;obtain ⟨cs,m2,h3,h4⟩:=zza h2;obtain ⟨⟨rows,fr,nw⟩,m3,h5,h6⟩:=zza h4;obtain ⟨_,m4,h7,h8⟩:=zza h6;have hr8:=zzc h8;simp only [Prod.mk.injEq] at hr8;obtain ⟨_,rfl,rfl⟩:=hr8;have hg:=zzd h1;simp only [zzj] at hg;have hlim:len * P.cellsOf e≤100000:=Nat.le_of_ble_eq_true hg.1;have hzl:=AD.1 hg.2;have hk:=zzd h7;have hu:=Zm he;obtain ⟨hsz,hpos⟩:=Cm hts;obtain ⟨ti,v,hi,hiz,hzv,hrz,hnz,hoz⟩:=MY (n0:=n0) (β:=β) (σ:=σ) (s:=s) (w:=w) hz;have hvl:v.cells.size=P.cellsOf e:=by have:=RelCs.length hrz.1;simp at this;omega
      have hinit:RelCs P n0 β σ s w (Dr len z.cs) ((Array.range (len * P.cellsOf e)).map (v.cells[· % v.cells.size]!)).toList:=by
        rw [← hvl,mB v.cells (by omega) len];exact qP hrz.1 len
      obtain ⟨cells', f1, f2, f3, f4⟩ := VF hs hf (place := fun i => some (i * P.cellsOf e, e)) (place' := fun i => some (i * P.cellsOf e, P.cellsOf e)) (fun i off T hp => by
          simp only [Option.some.injEq,Prod.mk.injEq] at hp;obtain ⟨rfl,rfl⟩:=hp;rfl) h3 hinit
      have hcsl:cs.length=len * ts.length:=by rw [f3,Yw,hzl,hsz]
      have hcl:cells'.size=len * ts.length:=by have:=RelCs.length f2;simp at this;omega
      have hcn:∀ n,Fresh a s n→n∉AF cs:=fun n hn=>f4 n hn (by
        rw [BG]
        rintro ⟨c,hc,hm⟩
        have:∀ k,c∈Dr k z.cs→c∈z.cs:=by
          intro k
          induction k with
          | zero=>intro h;simp [Dr] at h
          | succ k ih=>intro h;simp only [Dr,List.mem_append] at h;exact h.elim (fun h=>h) ih
        have h2:=BG.2 ⟨c,this len hc,hm⟩;rw [hnz] at h2;simp at h2)
      have hch:∀ i,i<len→(Hv (P.cellsOf e) len cs)[i]?=some ((cs.drop (i * ts.length)).take ts.length):=fun i hi=>by rw [U8 _ _ _ _ hi,hsz]
      have hcv:∀ i,i<len→(Hv (P.cellsOf e) len cells'.toList)[i]?=some ((cells'.toList.drop (i * ts.length)).take ts.length):=fun i hi=>by rw [U8 _ _ _ _ hi,hsz]
      obtain ⟨g1,g2,g3,g5,g4⟩:=fR hs.M (css:=Hv (P.cellsOf e) len cs) (vss:=Hv (P.cellsOf e) len cells'.toList) (by rw [Hu,Hu]) (fun i c1 v1 hc1 hv1=>by
        have hi:i<len:=by have:=(List.getElem?_eq_some_iff.1 hc1).1;rw [Hu] at this;exact this
        rw [hch i hi] at hc1;rw [hcv i hi] at hv1;cases hc1;cases hv1;exact RelCs.take _ (RelCs.drop _ f2)) h5
      have hrl:rows.length=len:=by rw [g3,Hu]
      have hmulle:∀ i j,i<len→j<ts.length→i * ts.length+j<cells'.size:=fun i j hi hj=>by
        rw [hcl];have:(i+1) * ts.length≤len * ts.length:=Nat.mul_le_mul_right _ hi;rw [Nat.add_mul,Nat.one_mul] at this;omega
      have key:=dV hs.M hid g1.pre (h:={ e,frozen:=false,nw,l:=rows.map (·.map Leaf.pv),dirty:=true })
        (wr:={ hs:=fr++[(id,some { e,frozen:=false,nw,l:=rows.map (·.map Leaf.pv),dirty:=true })] }) rfl rfl rfl rfl rfl (Grow.refl w) (cells:=cells') (cap:=len) (t:=T) (ts:=ts)
        (Ep.2 hu) hts (fun r hr=>by
          obtain ⟨l,hl,rfl⟩:=List.mem_map.1 hr;obtain ⟨i,hi,hget⟩:=List.mem_iff_getElem.1 hl;have hi':i<len:=by omega
          have:=g5 i l _ (by rw [zzn hi,hget]) (hch i hi');rw [List.length_map,this,List.length_take,List.length_drop,hcsl];have:(i+1) * ts.length≤len * ts.length:=Nat.mul_le_mul_right _ hi';rw [Nat.add_mul,Nat.one_mul] at this;omega) hcl (by simp [hrl]) hs.n0le (fun i j=>cells'.getD (i * ts.length+j) undef)
        (fun i j hi hj=>by
          have hi':i<len:=by simpa [hrl] using hi
          have:=hmulle i j hi' hj;simp [this])
        (fun i j t' hi hj=>by
          have hi':i<len:=by simpa [hrl] using hi
          have hj':j<ts.length:=(List.getElem?_eq_some_iff.1 hj).1;have hlt:=hmulle i j hi' hj';refine g4 ts (s.apply { hs:=fr }) hk (g1.sub rfl rfl) (g1.frz rfl) nw (fun h=>h) i j t' _ _ (hcv i hi') hj ?_;rw [List.getElem?_take,if_pos hj',List.getElem?_drop];simp [hlt])
      obtain ⟨k1,k2,k3,k4⟩:=key;refine ⟨.slice (some ⟨w.heap.size,0,none⟩) len len,β,_,_,?_,k1,k2,k3,?_,fun n _ hn=>by simpa [AC.names] using hn,rfl⟩
      · refine (MQ (x:=Instr.buildSlice T len (parts.map fun (i,x)=>(i,a.eval x))) (by simp [execOp,hop]) ?_);have hl:(parts.map fun (i,x)=>(i,a.eval x)).toList=parts.toList.map fun (i,x)=>(i,a.eval x):=by simp
        have hnl:¬ (len * P.cellsOf e > 2 ^ 24):=by omega
        by_cases h0:len * P.cellsOf e=0
        · have hr0:(Array.range (len * P.cellsOf e)).map (v.cells[· % v.cells.size]!)=#[]:=by rw [h0];simp [Array.range_zero']
          have hr1:(Array.range (len * P.cellsOf e)).map ((#[]:Array Value)[· % (#[]:Array Value).size]!)=#[]:=by rw [h0];simp [Array.range_zero']
          rw [hr0] at f1;simp [Instr.buildSlice,run_underlying hu,BZ hi,hnl,h0,hl,f1,newRow,Array.range_zero']
        · simp [Instr.buildSlice,run_underlying hu,BZ hi,hnl,h0,hl,f1,newRow,hzv]
      · exact MU (Ep.2 hu) k4 (A3 _ _ _) (by simp [hrl])
    · exact (zzb h).elim
theorem VH {n:Int} {b:Nat} (h:decide (0≤n∧n≤17592186044416∧n * (b:Int)≤17592186044416∧b≤1048576)=true):0≤n∧n≤17592186044416∧n * (b:Int)≤17592186044416∧b≤1048576:=of_decide_eq_true h
theorem gJ {x y:Operand} (h:ZR x y=true) (k:IntKind) (i:Int) (hx:a.eval x=.int k i):∃ k',a.eval y=.int k' i:=by
 unfold ZR at h
 split at h
 ·have:=AD.1 h;subst this;exact ⟨k,hx⟩
 ·rename_i k1 n1 k2 n2;have:=of_decide_eq_true h;subst this;have hx':Value.int k1 n1=.int k i:=hx;cases hx';exact ⟨k2,rfl⟩
 ·cases h
theorem Wi : ∀ {cs : List (AC0 E N)} {ls : List AR} {fr : List (Nat × Option (HEnt (std E N)))} {nw : Bool} {k k' : Nat}, cs.all gt = true →
    RM.run s (LL (O:=std E N) cs) k=.ok ((ls,fr,nw),k')→fr=[]∧nw=true
  | [],ls,fr,nw,k,k',_,h=>by
    have hr:=zzc h;simp only [Prod.mk.injEq] at hr;exact ⟨hr.2.1.symm,hr.2.2.symm⟩
  | c::cs,ls,fr,nw,k,k',hc,h=>by
    simp only [List.all_cons,zzj] at hc;obtain ⟨⟨l,f1,n1⟩,k1,h1,h2⟩:=zza h;obtain ⟨⟨ls2,f2,n2⟩,k2,h3,h4⟩:=zza h2;have hr:=zzc h4;simp only [Prod.mk.injEq] at hr;obtain ⟨_,rfl,rfl⟩:=hr;obtain ⟨rfl,rfl⟩:=Wi hc.2 h3;have:f1=[]∧n1=true:=by
      cases c<;>first
        | (have hr:=zzc h1;simp only [Prod.mk.injEq] at hr;exact ⟨hr.2.1.symm,hr.2.2.symm⟩)
        | (cases hc.1)
    obtain ⟨rfl,rfl⟩:=this;exact ⟨rfl,rfl⟩
theorem eA (hs : Sim P n0 nt β σ s a w) {ctx : List (Nat × Bool)} (hf : Facts a ctx) {id : Nat} (hid : Fresh a s id) {o : Oper} {T : TypeId} {len cap : Operand}
    (hop:o.op=.makeSlice T len cap) {as:List Bool} {c:AC0 E N} {wr:Wr (std E N)} {m m':Nat} (h:RM.run s (I3 P ctx id (.makeSlice T len cap)) m=.ok ((as,c,wr),m')) (has:∀ b∈as,b=true) :
    PR P n0 β σ s a w o id c wr:=by
  simp only [I3] at h
  split at h
  · exact (zzb h).elim
  · rename_i e he
    split at h
    · rename_i z ti ts hz hi hts;obtain ⟨n,m1,h1,h2⟩:=zza h;obtain ⟨_,m2,h3,h4⟩:=zza h2;obtain ⟨⟨ls,fr,nw⟩,m3,h5,h6⟩:=zza h4;have hr6:=zzc h6;simp only [Prod.mk.injEq] at hr6;obtain ⟨rfl,rfl,rfl⟩:=hr6;obtain ⟨n,rfl⟩:∃ j:Int,j=n:=⟨n,rfl⟩;have hg:=zzd h3;simp only [zzj] at hg;obtain ⟨⟨hsame,hk⟩,hsc⟩:=hg;have hb:=VH (n:=n) (b:=ti.bytes) (has _ zzl);have hu:=Zm he;obtain ⟨hsz,hpos⟩:=Cm hts;obtain ⟨ti',v,hi',hiz,hzv,hrz,hnz,hoz⟩:=MY (n0:=n0) (β:=β) (σ:=σ) (s:=s) (w:=w) hz;rw [hi] at hi';cases hi';obtain ⟨rfl,rfl⟩:=Wi hsc h5;have frn:FrOK s ([]:List (Nat×Option (HEnt (std E N)))):=fun n v hm=>by simp at hm
      obtain ⟨_,_,hll,hlf⟩:=Uh hs.M hrz.1 h5;have hk1:AX P ts z.cs=true:=by
        simp only [OC] at hk
        split at hk
        · assumption
        · cases hk
      have hzl:z.cs.length=ts.length:=by
        have:∀ {ts:List TypeId} {cs:List (AC0 E N)},AX P ts cs=true→cs.length=ts.length:=by
          intro ts
          induction ts with
          | nil => intro cs h; cases cs with
                   | nil=>rfl
                   | cons=>simp [AX] at h
          | cons t ts ih => intro cs h; cases cs with
                   | nil=>simp [AX] at h
                   | cons c cs => simp only [AX] at h; split at h
                                  · simp [ih h]
                                  · cases h
        exact this hk1
      have hvl:v.cells.size=ts.length:=by have:=RelCs.length hrz.1;simp at this;omega
      have htz:ti.size=ts.length:=by rw [← hsz];simp [Program.cellsOf,hi]
      obtain ⟨k1,hk1'⟩:=bv hs hf h1;obtain ⟨k2,hk2'⟩:=gJ hsame _ _ hk1';have hcells:(madeCells v.cells (n.toNat * ti.size)).toList=Dr n.toNat v.cells.toList:=by
        rw [htz,← hvl];exact mB v.cells (by omega) _
      have hml:(madeCells v.cells (n.toNat * ti.size)).size=n.toNat * ts.length:=by rw [size_madeCells,htz]
      have hmulle:∀ i j,i<n.toNat→j<ts.length→i * ts.length+j<n.toNat * ts.length:=fun i j hi hj=>by
        have:(i+1) * ts.length≤n.toNat * ts.length:=Nat.mul_le_mul_right _ hi;rw [Nat.add_mul,Nat.one_mul] at this;omega
      have hcell:∀ i j,i<n.toNat→j<ts.length→(madeCells v.cells (n.toNat * ti.size))[i * ts.length+j]?=v.cells[j]?:=fun i j hi' hj=>by
        rw [← Array.getElem?_toList,hcells,Zd (by simp;omega) _ _ (by simpa [hvl] using hmulle i j hi' hj)];have:(i * ts.length+j) % v.cells.toList.length=j:=by
          simp only [Array.length_toList,hvl];rw [Nat.add_comm,Nat.mul_comm,Nat.add_mul_mod_self_left];exact Nat.mod_eq_of_lt hj
        rw [this];simp
      have key:=dV hs.M hid frn.pre (h:={ e,frozen:=false,nw:=true,l:=List.replicate n.toNat (ls.map Leaf.pv),dirty:=true })
        (wr:={ hs:=[(id,some { e,frozen:=false,nw:=true,l:=List.replicate n.toNat (ls.map Leaf.pv),dirty:=true })] }) rfl rfl rfl rfl rfl (Grow.refl w)
        (cells:=madeCells v.cells (n.toNat * ti.size)) (cap:=n.toNat) (t:=T) (ts:=ts)
        (Ep.2 hu) hts (fun r hr=>by
          rw [List.eq_of_mem_replicate hr,List.length_map,hll,hzl]) hml (by simp) hs.n0le (fun i j=>v.cells.getD j undef)
        (fun i j hi' hj=>by
          have hi2:i<n.toNat:=by simpa using hi'
          rw [hcell i j hi2 hj];simp [hvl,hj])
        (fun i j t' hi' hj=>by
          have hi2:i<n.toNat:=by simpa using hi'
          have hj':j<ts.length:=(List.getElem?_eq_some_iff.1 hj).1;have:=hlf ts (s.apply { hs:=[] }) hk1 (frn.sub rfl rfl) (frn.frz rfl) true (fun h=>h) j t' (v.cells.getD j undef) hj (by simp [hvl,hj']);have hrow:Aa (List.replicate n.toNat (ls.map Leaf.pv)) i=ls.map Leaf.pv:=by simp [Aa,hi2]
          simpa [AB,hrow] using this)
      obtain ⟨q1,q2,q3,q4⟩:=key;refine ⟨.slice (some ⟨w.heap.size,0,none⟩) n.toNat n.toNat,β,_,_,?_,q1,q2,q3,?_,fun k _ hn=>by simpa [AC.names] using hn,rfl⟩
      · refine MQ (x:=Instr.makeSlice T (a.eval len) (a.eval cap)) (by simp [execOp,hop]) ?_;rw [hk1',hk2'];exact run_make (P:=P) (w:=w) T e ti v hu hi hiz k1 k2 n n hb.1 (Int.le_refl _) (by rw [Int.mul_comm];omega) (by omega)
      · exact MU (Ep.2 hu) q4 (A3 _ _ _) (by simp)
    · exact (zzb h).elim
theorem py (m : Mem P n0 β σ s w) {c : AC0 E N} {v : Value} {e : TypeId} {l : Rows} {nw : Bool} {k k' : Nat} (hc : RelC P n0 β σ s w c v) (h : RM.run s (XO (O := std E N) c) k = .ok ((e, l, nw), k')) :
    ∃ (av:Option Addr) (cap:Nat) (ts:List TypeId) (u:Nat→Nat→Value),v=.slice av l.length cap∧l.length≤cap∧AO P e=some ts∧(∀ r∈l,r.length=ts.length) ∧
      (l=[]∨∃ b off,av=some ⟨b,off,none⟩∧∀ i j,i<l.length→j<ts.length→w.cell? ⟨b,off+(i * ts.length+j),none⟩=some (u i j)) ∧
      (∀ (nb:Bool),(nb=true→nw=true∨∀ t'∈ts,∀ e,AJ P t'≠.sl e)→∀ i j t',i<l.length→ts[j]?=some t'→Rep P w (StB n0 β σ s nb) t' (u i j) (AB l i j)):=by
  have weak : ∀ (ts : List TypeId) (u : Nat → Nat → Value), (∀ i j t', i < l.length → ts[j]? = some t' → Rep P w (StB n0 β σ s nw) t' (u i j) (AB l i j)) →
      ∀ (nb:Bool),(nb=true→nw=true∨∀ t'∈ts,∀ e,AJ P t'≠.sl e)→∀ i j t',i<l.length→ts[j]?=some t'→Rep P w (StB n0 β σ s nb) t' (u i j) (AB l i j):=by
    intro ts u hu nb hnb i j t' hi hj;have:=hu i j t' hi hj;cases nb with
    | false=>exact this.st (fun b hb=>⟨hb.1,hb.2.mono (fun h=>by cases h)⟩)
    | true =>
      rcases hnb rfl with h1 | h1
      · exact this.st (fun b hb=>⟨hb.1,hb.2.mono (fun _=>h1)⟩)
      · generalize u i j=x,AB l i j=y at this;cases this with
        | int h=>exact .int h
        | bool h=>exact .bool h
        | str h=>exact .str h
        | sl v h _ _ _ _ _ _=>exact (h1 t' (List.mem_of_getElem? hj) _ h).elim
  cases c with
  | nil e0 =>
    have hr:=zzc h;simp only [Prod.mk.injEq] at hr;obtain ⟨rfl,rfl,rfl⟩:=hr;obtain ⟨t,ts,ht,hts,av,rfl⟩:=hc;exact ⟨av,0,ts,fun _ _=>undef,rfl,Nat.le_refl _,hts,by simp,.inl rfl,fun nb _ i j t' hi=>by simp at hi⟩
  | imm e0 nw0 l0 =>
    have hr:=zzc h;simp only [Prod.mk.injEq] at hr;obtain ⟨rfl,rfl,rfl⟩:=hr;obtain ⟨t,ht,hrep⟩:=hc;cases hrep with
    | @sl _ e2 ts av len cap _ vv ht' hts hl hr hcc hm hv =>
      rw [ht] at ht';cases ht';subst hl;refine ⟨av,cap,ts,vv,rfl,hcc,hts,hr,?_,weak ts vv hv⟩
      rcases hm with hm | ⟨b,off,ha,_,_,hcell⟩
      · exact .inl (List.length_eq_zero_iff.1 hm)
      · exact .inr ⟨b,off,ha,hcell⟩
  | own e0 id =>
    obtain ⟨k1,h⟩:=zzf h;cases hh:s.getH id with
    | none=>rw [hh] at h;exact (zzb h).elim
    | some en =>
      rw [hh] at h;have hr:=zzc h;simp only [Prod.mk.injEq] at hr;obtain ⟨rfl,rfl,rfl⟩:=hr;obtain ⟨⟨te,hte,_⟩,hk⟩:=hc;obtain ⟨hee,ho⟩:=hk en hh
      rcases m.H id en hh with ⟨t,ts,ht,hts,hrl,hm⟩ | hM
      case inr=>exact (hM.noSl (by rw [hee];exact hte)).elim
      rcases ho with ⟨blk,cap,hs,rfl⟩ | ⟨hs,hz,av,rfl⟩
      · rcases hm with ⟨hn,_⟩ | ⟨blk',cap',cells,el,hs',hheap,hel,hsz,hcap,hnw,u,hu,hrep⟩
        · rw [hn] at hs;cases hs
        · rw [hs'] at hs;cases hs;exact ⟨_,cap,ts,u,rfl,hcap,hts,hrl,.inr ⟨blk,0,rfl,fun i j hi hj=>by rw [cell_of_heap hheap,Nat.zero_add];exact hu i j hi hj⟩,weak ts u hrep⟩
      · have hl:en.l=[]:=List.length_eq_zero_iff.1 hz;exact ⟨av,0,ts,fun _ _=>undef,by rw [hz],by rw [hz];exact Nat.le_refl _,hts,hrl,.inl hl,fun nb _ i j t' hi=>by rw [hz] at hi;omega⟩
  | _=>exact (zzb h).elim
def flat (n sz:Nat) (f:Nat→Nat→Value):List Value:=(List.range (n * sz)).map fun k=>f (k / sz) (k % sz)
theorem B4 (n sz:Nat) (f:Nat→Nat→Value):(flat n sz f).length=n * sz:=by simp [flat]
theorem MV {i j n sz:Nat} (hi:i<n) (hj:j<sz):i * sz+j<n * sz:=by
 have:(i+1) * sz≤n * sz:=Nat.mul_le_mul_right _ hi;rw [Nat.add_mul,Nat.one_mul] at this;omega
theorem VU {n sz:Nat} (f:Nat→Nat→Value) {i j:Nat} (hi:i<n) (hj:j<sz):(flat n sz f)[i * sz+j]?=some (f i j):=by
 have h1:(i * sz+j) / sz=i:=by
  rw [Nat.add_comm,Nat.mul_comm,Nat.add_mul_div_left _ _ (by omega),Nat.div_eq_of_lt hj,Nat.zero_add]
 have h2:(i * sz+j) % sz=j:=by
  rw [Nat.add_comm,Nat.mul_comm,Nat.add_mul_mod_self_left];exact Nat.mod_eq_of_lt hj
 simp [flat,MV hi hj,h1,h2]
theorem U5 {n sz : Nat} (hsz : 0 < sz) {f : Nat → Nat → Value} {b off : Nat} (h : ∀ i j, i < n → j < sz → w.cell? ⟨b, off + (i * sz + j), none⟩ = some (f i j)) :
    ∀ j v,(flat n sz f)[j]?=some v→w.cell? ((⟨b,off,none⟩:Addr).add j)=some v:=by
  intro j v hj;have hlt:j<n * sz:=by have:=(List.getElem?_eq_some_iff.1 hj).1;rwa [B4] at this
  have hd:j / sz<n:=Nat.div_lt_of_lt_mul (by rwa [Nat.mul_comm] at hlt);have hm:j % sz<sz:=Nat.mod_lt _ hsz;have e:j=j / sz * sz+j % sz:=by rw [Nat.mul_comm];exact (Nat.div_add_mod j sz).symm
  have:=h (j / sz) (j % sz) hd hm;rw [← e] at this;rw [Hm,this];rw [e,VU f hd hm] at hj;exact hj
theorem sC {n sz:Nat} (hsz:0<sz) {f:Nat→Nat→Value} (h:∀ i j,i<n→j<sz→(f i j).oneCell'=true):∀ v∈flat n sz f,v.oneCell'=true:=by
 intro v hv;obtain ⟨j,hj,rfl⟩:=List.mem_map.1 hv;have hlt:=List.mem_range.1 hj;exact h _ _ (Nat.div_lt_of_lt_mul (by rwa [Nat.mul_comm] at hlt)) (Nat.mod_lt _ hsz)
theorem Rep.one {St:Nat→Prop} {t:TypeId} {v:Value} {p:PV} (h:Rep P w St t v p):v.oneCell'=true:=by cases h<;>rfl
theorem cH {T ty e : TypeId} {ti : TypeInfo} (hu : P.underlying T = some (.slice e)) (hi : P.info? e = some ti) {base av : Option Addr} {n cap cap' : Nat} (hc : n ≤ cap) :
    (Builtin.append_ #[T,T] ty #[.slice base n cap,.slice av 0 cap']).run P w=.ok (.slice base n cap) w:=by
  cases av<;>cases base<;>simp [Builtin.append_,run_underlying hu,sizeOf,typeInfo,hi,Builtin.lenOf,hc,Builtin.firstCells,loadCells,loadCellsFrom,storeCells]
theorem eJ {T ty e : TypeId} {ti : TypeInfo} {z : Value} (hu : P.underlying T = some (.slice e)) (hi : P.info? e = some ti) (hz : ti.zero = some z) {base : Option Addr} {n cap m c b off : Nat} {olds news : List Value}
    (hlo:olds.length=n * ti.size) (holds:∀ b,base=some b→∀ j v,olds[j]?=some v→w.cell? (b.add j)=some v) (hnb:base=none→n=0∧cap=0)
    (hl:news.length=m * ti.size) (hnews:∀ j v,news[j]?=some v→w.cell? ((⟨b,off,none⟩:Addr).add j)=some v)
    (hg:cap<n+m) (h63:((n+m:Nat):Int)≤9223372036854775807) (h47:(n+m) * ti.bytes≤140737488355328) :
    (Builtin.append_ #[T,T] ty #[.slice base n cap,.slice (some ⟨b,off,none⟩) m c]).run P w =
      .ok (.slice (some ⟨w.heap.size,0,none⟩) (n+m) (grownCap w (n+m) cap e)) (w.drew.alloc (.cells (olds.toArray++news.toArray++Builtin.zeroCells z.cells (grownCap w (n+m) cap e - (n+m))) e)):=by
  cases base with
  | some bb=>exact run_append_grow (P:=P) w T ty e ti z hu hi hz bb n cap olds hlo (holds bb rfl) ⟨b,off,none⟩ m c news hl hnews hg h63 (growslice_fits hg h47)
  | none =>
    obtain ⟨rfl,rfl⟩:=hnb rfl;have h0:olds=[]:=List.eq_nil_of_length_eq_zero (by simpa using hlo);subst h0;have:=run_append_nil (P:=P) w T ty e ti z hu hi hz ⟨b,off,none⟩ m c news hl hnews (by omega) (by simpa using h63) (by simp only [Nat.zero_add] at h47;omega);simpa using this
theorem Wx {P:Program}:∀ {ts:List TypeId},X2 P ts=0→∀ t'∈ts,∀ e,AJ P t'≠.sl e
 | [],_,t',ht',_=>by simp at ht'
 | t::ts,h0,t',ht',e2=>by
  simp only [X2] at h0
  rcases List.mem_cons.1 ht' with rfl | ht'
  ·intro he2;rw [he2] at h0;simp at h0
  ·exact Wx (by omega) t' ht' e2
end
section
variable {E:Env} {N:Nat} {P:Program} {n0:Nz} {nt:Nat} {β:Nat→Option Nat} {σ:Nat→Option (Nat×Nat)} {s s':St0 E N} {a:Act} {w w':World}
theorem pB (m : Mem P n0 β σ s w) {id : Nat} (hf : Fresh a s id) {pre : List (Nat × Option (HEnt (std E N)))} (hpre : PreOK s pre) {h : HEnt (std E N)} {wr : Wr (std E N)}
    (ht0:wr.ts=[]) (hb:wr.bs=[]) (hh:wr.hs=pre++[(id,some h)]) (hd:h.dirty=true) (hl:h.l=[]) {t:TypeId} {ts:List TypeId}
    (ht:AJ P t=.sl h.e) (hts:AO P h.e=some ts) :
    Mem P n0 β (upd σ id none) (s.apply wr) w∧Ext P (·=id) β σ s w β (upd σ id none) (s.apply wr) w∧Tidy a (·=id) s (s.apply wr)∧(s.apply wr).getH id=some h:=by
  have gB:=fun n=>State.getB_apply0 s wr hb n
  have gs:∀ n,(s.apply wr).getH n=if n=id then some h else (s.apply { hs:=pre }).getH n:=fun n=>by
    unfold State.apply State.getH;simp only [hh,EA,BA];exact BB _ _ _ _
  have fget:∀ n h',n≠id→(s.apply wr).getH n=some h'→∃ h0,s.getH n=some h0∧(h'=h0∨h'={ h0 with frozen:=true,dirty:=true }):=fun n h' hn he=>by
    rw [gs,if_neg hn] at he;exact hpre.get rfl n h' he
  have hget:(s.apply wr).getH id=some h:=by rw [gs,if_pos rfl]
  have x:Ext P (·=id) β σ s w β (upd σ id none) (s.apply wr) w:=by
    refine ⟨rfl,rfl,rfl,Nat.le_refl _,fun b hb _=>rfl,fun b hb=>?_,fun b e he hn=>?_,fun n e he hn=>?_⟩
    · rcases hb with ⟨n,e,he,hb⟩ | ⟨n,e,cap',he,hfz,hb⟩
      · rw [gB] at he;exact .inl (.inl ⟨n,e,he,hb⟩)
      · by_cases hid:n=id
        · rw [hid,A3] at hb;cases hb
        · obtain ⟨h0,hh0,h1⟩:=fget n e hid he;rw [Az _ _ hid] at hb
          rcases h1 with rfl | rfl
          · exact .inl (.inr ⟨n,e,cap',hh0,hfz,hb⟩)
          · cases hfz
    · rw [gB] at he;exact ⟨⟨e,he⟩,rfl⟩
    · obtain ⟨h0,hh0,h1⟩:=fget n e hn he;refine ⟨h0,hh0,Az _ _ hn,?_⟩
      rcases h1 with rfl | rfl<;>exact ⟨rfl,fun _=>rfl⟩
  refine ⟨YC (id:=id) m x (fun n e he=>?_) (fun n e blk he hb=>rfl) (fun n h' hn he=>?_) (fun n h' blk cap' hn he hs=>rfl) (fun h' he=>?_) (fun blk cap' hs=>?_),x,⟨fun n hfn hn=>?_,fun n e he hd'=>?_,fun n e he hd'=>?_⟩,hget⟩
  · rw [gB] at he;exact ⟨e,he,rfl,fun k hk h=>(hf.b n e he).2 (h▸hk)⟩
  · obtain ⟨h0,hh0,h1⟩:=fget n h' hn he;refine ⟨h0,hh0,?_⟩
    rcases h1 with rfl | rfl
    · exact ⟨rfl,rfl,rfl,fun h=>h,Az _ _ hn⟩
    · exact ⟨rfl,rfl,rfl,(fun h=>by cases h),Az _ _ hn⟩
  · rw [hget] at he;cases he;exact .inl ⟨t,ts,ht,hts,by rw [hl];simp,.inl ⟨A3 _ _ _,hl⟩⟩
  · rw [A3] at hs;cases hs
  · refine ⟨fun k tv hk=>?_,fun k e he=>?_,fun k e he=>?_⟩
    · rw [State.getT_apply0 s wr ht0] at hk;exact hfn.t k tv hk
    · rw [gB] at he;exact hfn.b k e he
    · by_cases hk:k=id
      · exact fun h=>hn (h.trans hk)
      · obtain ⟨h0,hh0,_⟩:=fget k e hk he;exact hfn.h k h0 hh0
  · rw [gB] at he;exact he
  · by_cases hk:n=id
    · rw [hk,hget] at he;cases he;rw [hd] at hd';cases hd'
    · obtain ⟨h0,hh0,h1⟩:=fget n e hk he
      rcases h1 with rfl | rfl
      · exact hh0
      · cases hd'
theorem iU (m : Mem P n0 β σ s w) {id : Nat} (hf : Fresh a s id) {i blk cap : Nat} {h0 : HEnt (std E N)} (hi : s.getH i = some h0) (hfz0 : h0.frozen = false) (hsi : σ i = some (blk, cap))
    {h:HEnt (std E N)} {wr:Wr (std E N)} (ht0:wr.ts=[]) (hb:wr.bs=[]) (hh:wr.hs=[(i,none),(id,some h)]) (hd:h.dirty=true) (hz:h.frozen=false)
    (ho:w'.os=w.os) (htp:w'.tape=w.tape) (hout:w'.output=w.output) (hsize:w'.heap.size=w.heap.size) (hother:∀ b,b≠blk→w'.heap[b]?=w.heap[b]?)
    {cells:Array Value} (hheap:w'.heap[blk]?=some (.cells cells h.e (0,0))) {t:TypeId} {ts:List TypeId}
    (ht:AJ P t=.sl h.e) (hts:AO P h.e=some ts) (hrl:∀ r∈h.l,r.length=ts.length) (hsz:cells.size=cap * ts.length) (hcap:h.l.length≤cap) (hnw:Old n0 h.nw blk)
    (v:Nat→Nat→Value) (hv:∀ i j,i<h.l.length→j<ts.length→cells[i * ts.length+j]?=some (v i j))
    (hrep:∀ i j t',i<h.l.length→ts[j]?=some t'→Rep P w (StB n0 β σ s h.nw) t' (v i j) (AB h.l i j)) :
    Mem P n0 β (upd σ id (some (blk,cap))) (s.apply wr) w'∧Ext P (·=id) β σ s w β (upd σ id (some (blk,cap))) (s.apply wr) w'∧Tidy a (·=id) s (s.apply wr) ∧
      (s.apply wr).getH id=some h:=by
  have gB:=fun n=>State.getB_apply0 s wr hb n
  have hii:i≠id:=fun e=>hf.h i h0 hi e.symm
  have gs:∀ n,(s.apply wr).getH n=if n=id then some h else if n=i then none else s.getH n:=fun n=>by
    unfold State.apply State.getH;simp only [hh,BA];rw [BB,BB]
  have fget:∀ n h',n≠id→(s.apply wr).getH n=some h'→n≠i∧s.getH n=some h':=fun n h' hn he=>by
    rw [gs,if_neg hn] at he
    by_cases hni:n=i
    · rw [if_pos hni] at he;cases he
    · rw [if_neg hni] at he;exact ⟨hni,he⟩
  have hget:(s.apply wr).getH id=some h:=by rw [gs,if_pos rfl]
  have hin:InM β σ s blk:=.inr ⟨i,h0,cap,hi,hfz0,hsi⟩;have x:Ext P (·=id) β σ s w β (upd σ id (some (blk,cap))) (s.apply wr) w':=by
    refine ⟨ho,htp,hout,by omega,fun b hb hm=>hother b (fun e=>hm (e▸hin)),fun b hb=>.inl ?_,fun b e he hn=>?_,fun n e he hn=>?_⟩
    · rcases hb with ⟨n,e,he,hb⟩ | ⟨n,e,cap',he,hfz,hb⟩
      · rw [gB] at he;exact .inl ⟨n,e,he,hb⟩
      · by_cases hid:n=id
        · rw [hid,A3] at hb;cases hb;exact hin
        · obtain ⟨_,hh0⟩:=fget n e hid he;rw [Az _ _ hid] at hb;exact .inr ⟨n,e,cap',hh0,hfz,hb⟩
    · rw [gB] at he;exact ⟨⟨e,he⟩,rfl⟩
    · obtain ⟨_,hh0⟩:=fget n e hn he;exact ⟨e,hh0,Az _ _ hn,rfl,fun _=>rfl⟩
  refine ⟨YC (id:=id) m x (fun n e he=>?_) (fun n e blk' he hb=>?_) (fun n h' hn he=>?_) (fun n h' blk' cap' hn he hs=>?_) (fun h' he=>?_) (fun blk' cap' hs=>?_),x,⟨fun n hfn hn=>?_,fun n e he hd'=>?_,fun n e he hd'=>?_⟩,hget⟩
  · rw [gB] at he;exact ⟨e,he,rfl,fun k hk h=>(hf.b n e he).2 (h▸hk)⟩
  · rw [gB] at he;exact hother blk' (fun e2=>m.uX n e i h0 blk cap he hi (e2▸hb) hsi)
  · obtain ⟨_,hh0⟩:=fget n h' hn he;exact ⟨h',hh0,rfl,rfl,rfl,fun h=>h,Az _ _ hn⟩
  · obtain ⟨hni,hh0⟩:=fget n h' hn he;exact hother blk' (fun e2=>hni (m.uH n i h' h0 blk cap' cap hh0 hi (e2▸hs) hsi))
  · rw [hget] at he;cases he;exact .inl ⟨t,ts,ht,hts,hrl,.inr ⟨blk,cap,cells,h.e,A3 _ _ _,hheap,rfl,hsz,hcap,hnw,v,hv,fun i j t' hi hj=>x.rep (hrep i j t' hi hj)⟩⟩
  · rw [A3] at hs;cases hs;refine ⟨fun n e he hb=>?_,fun n h' cap'' hn he hs=>?_⟩
    · rw [gB] at he;exact m.uX n e i h0 blk cap he hi hb hsi
    · obtain ⟨hni,hh0⟩:=fget n h' hn he;exact hni (m.uH n i h' h0 blk cap'' cap hh0 hi hs hsi)
  · refine ⟨fun k tv hk=>?_,fun k e he=>?_,fun k e he=>?_⟩
    · rw [State.getT_apply0 s wr ht0] at hk;exact hfn.t k tv hk
    · rw [gB] at he;exact hfn.b k e he
    · by_cases hk:k=id
      · exact fun h=>hn (h.trans hk)
      · obtain ⟨_,hh0⟩:=fget k e hk he;exact hfn.h k e hh0
  · rw [gB] at he;exact he
  · by_cases hk:n=id
    · rw [hk,hget] at he;cases he;rw [hd] at hd';cases hd'
    · exact (fget n e hk he).2
theorem kv (hs : Sim P n0 nt β σ s a w) {ctx : List (Nat × Bool)} (hf : Facts a ctx) {id : Nat} (hid : Fresh a s id) {o : Oper} {c : Call}
    (hop:o.op=.call c) (hb:c.callee=.builtin .append) {as:List Bool} {r:AC0 E N} {wr:Wr (std E N)} {m m':Nat} (h:RM.run s (I3 P ctx id (.call c)) m=.ok ((as,r,wr),m')) (has:∀ b∈as,b=true) :
    PR P n0 β σ s a w o id r wr:=by
  obtain ⟨callee,args,argTypes⟩:=c;simp only at hb;subst hb;simp only [I3] at h
  split at h
  case h_2=>exact (zzb h).elim
  rename_i x y T U hcal ha hT
  split at h
  case h_2=>exact (zzb h).elim
  rename_i e e' heT heU;obtain ⟨_,m1,h1,h2⟩:=zza h;obtain ⟨ca,m2,h3,h4⟩:=zza h2;obtain ⟨cb,m3,h5,h6⟩:=zza h4;obtain ⟨⟨eb,lb,nb'⟩,m4,h7,h8⟩:=zza h6;have hTU:=AD.1 (zzd h1);subst hTU;have ha':args=#[x,y]:=by apply Array.ext';simpa using ha
  have hT':argTypes=#[T,T]:=by apply Array.ext';simpa using hT
  subst ha';subst hT';have hu:=Zm heT;obtain ⟨hca,_,_⟩:=DL hs hf h3;obtain ⟨hcb,_,_⟩:=DL hs hf h5;simp only at h8
  split at h8
  case h_2=>exact (zzb h8).elim
  rename_i ti ts z hi hts0 hz0;obtain ⟨_,m5,h9,h10⟩:=zza h8;have hg9:=zzd h9;simp only [zzj] at hg9;have heb:=AD.1 hg9.1;have hzl0:=AD.1 hg9.2;subst heb;obtain ⟨av,capb,ts1,u,hvb,hcb2,hts,hrlb,hmb,hrb⟩:=py hs.M hcb h7;have hnn:ts=ts1:=by rw [hts] at hts0;exact (Option.some.inj hts0).symm
  clear hts0;subst hnn;obtain ⟨hsz,hpos⟩:=Cm hts;obtain ⟨ti',zv,hi',hiz,hzv,hrz,hnz,hoz⟩:=MY (n0:=n0) (β:=β) (σ:=σ) (s:=s) (w:=w) hz0;rw [hi] at hi';cases hi';have htz:ti.size=ts.length:=by rw [← hsz];simp [Program.cellsOf,hi]
  have hex:(execOp a.eval o)=(do pure (.value (← Builtin.append_ #[T,T] o.type #[a.eval x,a.eval y]))):=by
    simp [execOp,hop,resolve,invoke,builtin]
  have hflat:∀ nb:Bool,(nb=true→(nb'||aO P e)=true)→nb=true→nb'=true∨∀ t'∈ts,∀ e,AJ P t'≠.sl e:=fun nb hn hb=>by
    have:=hn hb;simp only [Bool.or_eq_true] at this
    rcases this with h | h
    · exact .inl h
    · right
      unfold aO at h;rw [hts] at h;exact Wx (AD.1 h)
  have main : ∀ (pre : List (Nat × Option (HEnt (std E N)))) (nwa : Bool) (la : Rows) (base : Option Addr) (cap : Nat) (v0 : Nat → Nat → Value),
      a.eval x=.slice base la.length cap→la.length≤cap→PreOK s pre→(∀ r∈la,r.length=ts.length) →
      (∀ i j t',i<la.length→ts[j]?=some t'→Rep P w (StB n0 β σ s nwa) t' (v0 i j) (AB la i j)) →
      ((la=[]∧cap=0)∨∃ blk cells i h,base=some ⟨blk,0,none⟩∧w.heap[blk]?=some (.cells cells e (0,0))∧cells.size=cap * ts.length ∧
        (∀ i j,i<la.length→j<ts.length→cells[i * ts.length+j]?=some (v0 i j))∧s.getH i=some h∧h.frozen=false∧σ i=some (blk,cap)∧pre=[(i,none)]∧Old n0 nwa blk) →
      ((la++lb).length:Int)≤17592186044416→((la++lb).length:Int) * ti.bytes≤17592186044416 →
      ∀ nw,(nw=true→nwa=true∧(nb'||aO P e)=true) →
      PR P n0 β σ s a w o id (.own e id) { hs:=pre++[(id,some { e,frozen:=false,nw,l:=la++lb,dirty:=true })] }:=by
    intro pre nwa la base cap v0 hva hcap hpre hrla hra hmem hlen hby nw hnw;have hbytes:(la.length+lb.length) * ti.bytes≤140737488355328:=by
      have:((la.length+lb.length:Nat):Int) * (ti.bytes:Int)≤17592186044416:=by rw [List.length_append] at hby;exact hby
      have h3:(((la.length+lb.length) * ti.bytes:Nat):Int)≤17592186044416:=by rw [Int.natCast_mul];exact this
      omega
    have hrl:∀ r∈la++lb,r.length=ts.length:=fun r hr=>(List.mem_append.1 hr).elim (hrla r) (hrlb r)
    have hpvl:∀ i j,i<la.length→AB (la++lb) i j=AB la i j:=fun i j hi=>by simp [AB,Aa,List.getD,List.getElem?_append_left hi]
    have hpvr:∀ i j,la.length≤i→AB (la++lb) i j=AB lb (i - la.length) j:=fun i j hi=>by simp [AB,Aa,List.getD,List.getElem?_append_right hi]
    have hrb':=hrb nw (hflat nw (fun h=>(hnw h).2));have hra':∀ i j t',i<la.length→ts[j]?=some t'→Rep P w (StB n0 β σ s nw) t' (v0 i j) (AB la i j):=fun i j t' hi hj =>
      (hra i j t' hi hj).st (fun b hb=>⟨hb.1,hb.2.mono (fun h=>(hnw h).1)⟩)
    let v:Nat→Nat→Value:=fun i j=>if i<la.length then v0 i j else u (i - la.length) j
    have hrep:∀ i j t',i<(la++lb).length→ts[j]?=some t'→Rep P w (StB n0 β σ s nw) t' (v i j) (AB (la++lb) i j):=fun i j t' hi hj=>by
      by_cases h:i<la.length
      · simp only [v,h,if_true];rw [hpvl i j h];exact hra' i j t' h hj
      · simp only [v,h,if_false];rw [hpvr i j (by omega)];exact hrb' (i - la.length) j t' (by rw [List.length_append] at hi;omega) hj
    have hsub:=hpre.sub (wr:={ hs:=pre }) rfl rfl
    let hnew:HEnt (std E N):={ e,frozen:=false,nw,l:=la++lb,dirty:=true }
    by_cases hm0:lb.length=0
    ·
      have hlb:lb=[]:=List.length_eq_zero_iff.1 hm0;have hrun:(Builtin.append_ #[T,T] o.type #[a.eval x,a.eval y]).run P w=.ok (.slice base la.length cap) w:=by
        rw [hva,hvb,hm0];exact cH hu hi hcap
      rcases hmem with ⟨hl0,hc0⟩ | ⟨blk,cells,i,h,hbase,hheap,hcs,hcells,hgi,hfz,hsi,hpr,hnb0⟩
      · obtain ⟨q1,q2,q3,q4⟩:=pB hs.M hid hpre (h:=hnew) (wr:={ hs:=pre++[(id,some hnew)] }) rfl rfl rfl rfl (by simp [hnew,hl0,hlb]) (Ep.2 hu) hts;refine ⟨_,β,_,_,MQ hex hrun,q1,q2,q3,?_,fun k _ hn=>by simpa [AC.names] using hn,rfl⟩;exact ⟨⟨_,Ep.2 hu,_,_,_,rfl⟩,fun h2 hh2=>by
          rw [q4] at hh2;cases hh2;exact ⟨rfl,.inr ⟨A3 _ _ _,by simp [hnew,hl0,hlb],base,by rw [hl0,hc0];rfl⟩⟩⟩
      · subst hpr;obtain ⟨q1,q2,q3,q4⟩:=iU hs.M hid hgi hfz hsi (h:=hnew) (wr:={ hs:=[(i,none)]++[(id,some hnew)] }) rfl rfl rfl rfl rfl rfl rfl rfl rfl (fun _ _=>rfl) hheap (Ep.2 hu) hts hrl hcs
          (by simp [hnew,hlb];exact hcap) (hnb0.mono (fun h=>(hnw h).1)) v0 (fun i j hi hj=>hcells i j (by simpa [hnew,hlb] using hi) hj) (fun i j t' hi hj=>by
            have hi':i<la.length:=by simpa [hnew,hlb] using hi
            rw [show hnew.l=la++lb from rfl,hpvl i j hi'];exact hra' i j t' hi' hj)
        refine ⟨_,β,_,_,MQ hex hrun,q1,q2,q3,?_,fun k _ hn=>by simpa [AC.names] using hn,rfl⟩;rw [hbase];exact MU (Ep.2 hu) q4 (A3 _ _ _) (by simp [hnew,hlb])
    · obtain ⟨b, off, hav, hcell⟩ : ∃ b off, av = some ⟨b, off, none⟩ ∧ ∀ i j, i < lb.length → j < ts.length → w.cell? ⟨b, off + (i * ts.length + j), none⟩ = some (u i j) := by
        rcases hmb with h | h
        · rw [h] at hm0;simp at hm0
        · exact h
      subst hav
      by_cases hroom:la.length+lb.length≤cap
      · rcases hmem with ⟨hl0,hc0⟩ | ⟨blk,cells,i,h,hbase,hheap,hcs,hcells,hgi,hfz,hsi,hpr,hnb0⟩
        · omega
        · subst hpr;subst hbase;have hle:la.length * ts.length+lb.length * ts.length≤cells.size:=by
            rw [hcs,← Nat.add_mul];exact Nat.mul_le_mul_right _ hroom
          have hone:∀ v∈flat lb.length ts.length u,v.oneCell'=true:=sC hpos (fun i j hi hj=>by
            obtain ⟨t',ht'⟩:∃ t',ts[j]?=some t':=⟨ts[j],zzn hj⟩;exact (hrb false (fun h=>by cases h) i j t' hi ht').one)
          have hrun:=run_append_room (P:=P) (w:=w) T o.type e ti hu hi blk la.length cap cells hheap ⟨b,off,none⟩ lb.length capb (flat lb.length ts.length u) (by rw [B4,htz]) (U5 hpos hcell) hone hroom
            (by rw [B4,htz];exact hle)
          rw [htz,B4] at hrun;have hlt:(cells.toList.take (la.length * ts.length)).length=la.length * ts.length:=by
            have hq:la.length * ts.length≤cells.size:=Nat.le_trans (Nat.le_add_right _ _) hle;rw [List.length_take];exact Nat.min_eq_left (by rw [Array.length_toList];exact hq)
          obtain ⟨q1,q2,q3,q4⟩:=iU hs.M hid hgi hfz hsi (h:=hnew) (wr:={ hs:=[(i,none)]++[(id,some hnew)] }) rfl rfl rfl rfl rfl
            (w':=w.setRow blk (cells.toList.take (la.length * ts.length)++flat lb.length ts.length u++cells.toList.drop (la.length * ts.length+lb.length * ts.length)).toArray)
            rfl rfl rfl (by simp) (fun b hb=>setRow_other w blk b _ hb) (setRow_heap w blk cells _ _ _ hheap) (Ep.2 hu) hts hrl
            (by simp only [List.size_toArray,List.length_append,hlt,B4,List.length_drop,Array.length_toList];omega)
            (by simp [hnew];exact hroom) (hnb0.mono (fun h=>(hnw h).1)) v (fun i j hi hj=>by
              have hi':i<la.length+lb.length:=by simpa [hnew] using hi
              rw [List.getElem?_toArray,List.append_assoc]
              by_cases h:i<la.length
              · have h1:=MV h hj;rw [List.getElem?_append_left (by rw [hlt];exact h1),List.getElem?_take,if_pos h1];simp only [v,h,if_true];rw [Array.getElem?_toList];exact hcells i j h hj
              · have e1:la.length * ts.length≤i * ts.length:=Nat.mul_le_mul_right _ (by omega);have e2:i * ts.length+j - la.length * ts.length=(i - la.length) * ts.length+j:=by rw [Nat.sub_mul];omega
                rw [List.getElem?_append_right (by rw [hlt];omega),hlt,e2,List.getElem?_append_left (by rw [B4];exact MV (by omega) hj)];simp only [v,h,if_false];exact VU u (by omega) hj) hrep
          refine ⟨_,β,_,_,MQ hex (by rw [hva,hvb];exact hrun),q1,q2,q3,?_,fun k _ hn=>by simpa [AC.names] using hn,rfl⟩;exact MU (Ep.2 hu) q4 (A3 _ _ _) (by simp [hnew])
      ·
        have hnb:base=none→la.length=0∧cap=0:=fun hbn=>by
          rcases hmem with ⟨h1,h2⟩ | ⟨blk,_,_,_,h1,_⟩
          · exact ⟨by rw [h1];rfl,h2⟩
          · rw [hbn] at h1;cases h1
        have holds:∀ b,base=some b→∀ j v,(flat la.length ts.length v0)[j]?=some v→w.cell? (b.add j)=some v:=fun b hb=>by
          rcases hmem with ⟨h1,h2⟩ | ⟨blk,cells,i,h,h1,hheap,hcs,hcells,_⟩
          · intro j v hj;rw [h1] at hj;simp [flat] at hj
          · rw [hb] at h1;cases h1;exact U5 hpos (fun i j hi hj=>by rw [cell_of_heap hheap,Nat.zero_add];exact hcells i j hi hj)
        have hrun:=eJ (P:=P) (w:=w) (ty:=o.type) hu hi hiz (base:=base) (n:=la.length) (cap:=cap) (m:=lb.length) (c:=capb) (b:=b) (off:=off)
          (olds:=flat la.length ts.length v0) (news:=flat lb.length ts.length u) (by rw [B4,htz]) holds hnb (by rw [B4,htz]) (U5 hpos hcell) (by omega) (by rw [List.length_append] at hlen;omega) hbytes
        have hge:=grownCap_ge w (la.length+lb.length) cap e;have hzl:zv.cells.size=ts.length:=by
          have h1:=RelCs.length hrz.1;simp at h1;omega
        have key:=dV hs.M hid hpre (h:=hnew) (wr:={ hs:=pre++[(id,some hnew)] }) rfl rfl rfl rfl rfl (Grow.drew w)
          (cells:=(flat la.length ts.length v0).toArray++(flat lb.length ts.length u).toArray++Builtin.zeroCells zv.cells (grownCap w (la.length+lb.length) cap e - (la.length+lb.length)))
          (cap:=grownCap w (la.length+lb.length) cap e) (t:=T) (ts:=ts) (Ep.2 hu) hts hrl
          (by simp only [Array.size_append,List.size_toArray,B4,size_zeroCells,hzl,← Nat.add_mul];congr 1;omega)
          (by simp only [hnew,List.length_append];exact hge) hs.n0le v
          (fun i j hi hj=>by
            have hi':i<la.length+lb.length:=by simpa [hnew] using hi
            rw [Array.getElem?_append_left (by simp only [Array.size_append,List.size_toArray,B4,← Nat.add_mul];exact MV hi' hj)]
            by_cases h:i<la.length
            · rw [Array.getElem?_append_left (by simp only [List.size_toArray,B4];exact MV h hj)];simp only [List.getElem?_toArray,v,h,if_true];exact VU v0 h hj
            · have e1:la.length * ts.length≤i * ts.length:=Nat.mul_le_mul_right _ (by omega);rw [Array.getElem?_append_right (by simp only [List.size_toArray,B4];omega)];simp only [List.size_toArray,B4,List.getElem?_toArray,v,h,if_false];have e2:i * ts.length+j - la.length * ts.length=(i - la.length) * ts.length+j:=by rw [Nat.sub_mul];omega
              rw [e2];exact VU u (by omega) hj)
          (fun i j t' hi hj=>(hrep i j t' hi hj).st (fun b hb=>⟨fun hm=>hb.1 (hsub.inM hm),hb.2⟩))
        obtain ⟨q1,q2,q3,q4⟩:=key;refine ⟨_,β,_,_,MQ hex (by rw [hva,hvb];exact hrun),q1,q2,q3,MU (Ep.2 hu) q4 (A3 _ _ _) (by simp [hnew]),fun k _ hn=>by simpa [AC.names] using hn,rfl⟩
  split at h10
  · rename_i ea;obtain ⟨_,m6,h11,h12⟩:=zza h10;have hea:=AD.1 (zzd h11);subst hea;have hr:=zzc h12;simp only [Prod.mk.injEq] at hr;obtain ⟨rfl,rfl,rfl⟩:=hr;obtain ⟨t0,ts1,_,_,av0,hva⟩:=hca;have hb:=VH (n:=(lb.length:Int)) (b:=ti.bytes) (has _ zzl);have:=main [] true [] av0 0 (fun _ _=>undef) hva (Nat.le_refl _) (fun n v hm=>by simp at hm) (by simp) (fun i j t' hi=>by simp at hi) (.inl ⟨rfl,rfl⟩) (by simpa using hb.2.1) (by simpa using hb.2.2.1) (nb'||aO P e) (fun h=>⟨rfl,h⟩);simpa using this
  · rename_i ea i _;obtain ⟨m6,h11⟩:=zzf h10;cases hh:s.getH i with
    | none=>rw [hh] at h11;exact (zzb h11).elim
    | some hx =>
      rw [hh] at h11;obtain ⟨_,m7,h12,h13⟩:=zza h11;have hg:=zzd h12;simp only [zzj,Bool.not_eq_true'] at hg;obtain ⟨⟨hfz,hea⟩,heh⟩:=hg;have hea:=AD.1 hea;have heh:=AD.1 heh;have hr:=zzc h13;simp only [Prod.mk.injEq] at hr;obtain ⟨rfl,rfl,rfl⟩:=hr;have hb:=VH (n:=((hx.l++lb).length:Int)) (b:=ti.bytes) (has _ zzl);obtain ⟨⟨te,hte,_⟩,hk⟩:=hca;obtain ⟨hee,ho⟩:=hk hx hh
      rcases hs.M.H i hx hh with ⟨t1,ts1,ht1,hts1,hrl1,hm1⟩ | hM
      case inr=>exact (hM.noSl (by rw [hee];exact hte)).elim
      rw [← heh,hts] at hts1;cases hts1;have hpre:PreOK s [(i,(none:Option (HEnt (std E N))))]:=fun n v hm=>by
        simp only [List.mem_singleton,Prod.mk.injEq] at hm;exact .inl hm.2
      rcases ho with ⟨blk,cap,hsi,hva⟩ | ⟨hsi,hz,av0,hva⟩
      · rcases hm1 with ⟨hn,_⟩ | ⟨blk',cap',cells,el,hs',hheap,hel,hsz1,hcap1,hnw1,u1,hu1,hrep1⟩
        · rw [hn] at hsi;cases hsi
        · rw [hs'] at hsi;cases hsi;subst hel;exact main [(i,none)] hx.nw hx.l _ cap u1 hva hcap1 hpre hrl1 hrep1
            (.inr ⟨blk,cells,i,hx,rfl,by rw [heh];exact hheap,hsz1,hu1,hh,hfz,hs',rfl,hnw1⟩) hb.2.1 hb.2.2.1 _ (fun h=>by simpa using h)
      · have hl0:hx.l=[]:=List.length_eq_zero_iff.1 hz;exact main [(i,none)] hx.nw hx.l av0 0 (fun _ _=>undef) (by rw [hva,hl0];rfl) (by rw [hl0];exact Nat.le_refl _) hpre hrl1 (fun i j t' hi=>by rw [hl0] at hi;simp at hi)
          (.inl ⟨hl0,rfl⟩) hb.2.1 hb.2.2.1 _ (fun h=>by simpa using h)
  · exact (zzb h10).elim
end
section
variable {E:Env} {N:Nat} {P:Program} {n0:Nz} {nt:Nat} {β:Nat→Option Nat} {σ:Nat→Option (Nat×Nat)} {s s':St0 E N} {a:Act} {w w':World}
theorem nn (hs : Sim P n0 nt β σ s a w) {ctx : List (Nat × Bool)} (hf : Facts a ctx) {id : Nat} (hid : Fresh a s id) {o : Oper} {src dst : TypeId} {x : Operand}
    (hop:o.op=.convert src dst x) {as:List Bool} {r:AC0 E N} {wr:Wr (std E N)} {m m':Nat} (h:RM.run s (I3 P ctx id (.convert src dst x)) m=.ok ((as,r,wr),m')) :
    PR P n0 β σ s a w o id r wr:=by
  simp only [I3] at h;obtain ⟨c,m1,h1,h2⟩:=zza h;obtain ⟨hc,_,_⟩:=DL hs hf h1
  split at h2
  case h_2=>exact (zzb h2).elim
  rename_i e str hus hdst _
  split at h2
  case h_2=>exact (zzb h2).elim
  rename_i t he hts
  split at h2
  case h_2=>exact (zzb h2).elim
  rename_i ht;have hr:=zzc h2;simp only [Prod.mk.injEq] at hr;obtain ⟨rfl,rfl,rfl⟩:=hr;have hs1:=Z5 hus;have hd1:=Ep.1 hdst;have he1:=aA he;have hrun:=run_bytes_of_string (P:=P) w src dst e str hs1 hd1 he1;have hge:=grownCap_ge w str.size 0 e;generalize hcap:grownCap w str.size 0 e=cap at hrun hge;have g:Grow w (w.drew.alloc (.cells (bytesRow str cap) e ((bytesRow str cap).size,(bytesRow str cap).size+1))):=(Grow.drew w).trans (Grow.alloc _ _);have gB:=fun n=>State.getB_apply0 s ({}:Wr (std E N)) rfl n
  have gH:=fun n=>State.getH_apply0 s ({}:Wr (std E N)) rfl n
  have sub:Sub s (s.apply ({}:Wr (std E N))):=Sub.of_same gB gH;have hnew:(w.drew.alloc (.cells (bytesRow str cap) e ((bytesRow str cap).size,(bytesRow str cap).size+1))).heap[w.heap.size]?=some (.cells (bytesRow str cap) e ((bytesRow str cap).size,(bytesRow str cap).size+1)):=Pb w.drew _;refine ⟨_,β,σ,_,MQ (x:=convert src dst (a.eval x)) (by simp [execOp,hop]) (by rw [show a.eval x=.string str from hc];exact hrun),sub.mem (hs.M.grow g),?_,⟨fun n hf _=>?_,fun n b hb _=>by rw [gB] at hb;exact hb,fun n b hb _=>by rw [gH] at hb;exact hb⟩,?_,fun n _ _=>by simp [AC.names],rfl⟩
  · exact ((g.ext P (·=id) β σ s).trans (sub.ext P (·=id) β σ _)).weaken (fun n h=>h.elim (fun h=>h) (fun h=>h))
  · exact ⟨fun k tv hk=>by rw [State.getT_apply0 s _ rfl] at hk;exact hf.t k tv hk,fun k b hb=>by rw [gB] at hb;exact hf.b k b hb,fun k b hb=>by rw [gH] at hb;exact hf.h k b hb⟩
  · refine ⟨dst,hdst,.sl (fun i _=>.int .u8 ((str.data.toList.getD i 0).toNat:Int)) hdst hts (by simp [Ar]) (fun r hr=>?_) hge (.inr ⟨w.heap.size,0,rfl,⟨fun hm=>?_,Old.new hs.n0le⟩,A9 hnew,fun i j hi hj=>?_⟩) (fun i j t' hi hj=>?_)⟩
    · obtain ⟨b,_,rfl⟩:=List.mem_map.1 hr;rfl
    · rcases hm with ⟨b,e1,he1,hb⟩ | ⟨i,h1,cap1,hh,_,hb⟩
      · rw [gB] at he1;have:=hs.M.ltB he1 hb;omega
      · rw [gH] at hh;have:=hs.M.ltH hh hb;omega
    · rw [cell_of_heap hnew];have hj0:j=0:=by simp at hj;exact hj
      subst hj0;have hi':i<str.data.size:=hi;have hi2:i<(str.data.map (fun b=>Value.int .u8 b.toNat)).size:=by simpa using hi'
      simp only [Nat.zero_add,List.length_singleton,Nat.mul_one,Nat.add_zero,bytesRow];rw [Array.getElem?_append_left hi2];simp [List.getD,Array.getElem?_eq_getElem hi']
    · have hj0:j=0:=by have:=(List.getElem?_eq_some_iff.1 hj).1;simp at this;exact this
      subst hj0;simp at hj;subst hj;have hi':i<str.data.size:=hi;have:AB (Ar str) i 0=.int ((str.data.toList.getD i 0).toNat:Int):=by
        have hi3:i<str.data.toList.length:=by simpa using hi'
        simp only [AB,Aa,AA,Ar,List.getD,List.getElem?_map,zzn hi3];rfl
      rw [this];exact .int ht
theorem mj {t e:TypeId} {v:Value} (h:UZ (O:=std E N) P t v=some (.nil e)):v=.slice none 0 0:=by
 unfold UZ at h
 split at h<;>first | (cases h;done) | (split at h<;>cases h;done) | rfl
theorem qt {T : TypeId} {z : Val (std E N)} {v : Value} {i : TypeInfo} (hz : Qn (O := std E N) P T = some z) (hi : P.info? T = some i) (hiz : i.zero = some v) (hn : Se z.cs = true) (hr : RelVal P n0 β σ s w z v) (hnm : AF z.cs = []) :
    RelCs P n0 β σ s w (bp T z.cs) v.cells.toList∧(∀ blk,BH blk v.cells T (bp T z.cs))∧AF (bp T z.cs)=[]:=by
  unfold bp
  split
  · rename_i e he;have hc:O3 P T v=some z:=by
      unfold Qn at hz;rw [hi] at hz;simp only [hiz] at hz;exact hz
    obtain ⟨cs,rfl⟩:∃ cs,v=.agg cs:=by
      unfold O3 at hc
      split at hc
      · exact ⟨_,rfl⟩
      · split at hc
        · cases hc;cases he
        · cases hc
    simp only [O3] at hc
    split at hc
    case h_2=>cases hc
    rename_i ts hts
    split at hc
    case h_2=>cases hc
    rename_i l hl;cases hc;simp only at he;subst he;obtain ⟨h1,_⟩:=hr;have e1:(Value.agg cs).cells=cs:=rfl;rw [e1] at h1 ⊢;obtain ⟨l0⟩:=cs;simp only at h1 hl ⊢
    match l0,h1,hl with
    | [a,b],h1,hl =>
      have ha:a=.pointer none:=h1.1;have hb:b=.slice none 0 0:=by
        match ts,hl with
        | [],hl=>simp [KG] at hl
        | [t],hl=>simp only [KG] at hl;split at hl<;>simp_all
        | t::t'::r,hl =>
          simp only [KG] at hl
          split at hl
          · rename_i x y h3 h4
            split at h4
            · rename_i x' y' h5 h6;cases h4;simp only [Option.some.injEq,List.cons.injEq] at hl;exact mj (by rw [h5,hl.2.1])
            · cases h4
          · cases hl
      subst ha;subst hb;exact ⟨⟨rfl,h1.2.1,trivial⟩,fun blk=>⟨rfl,_,_,rfl,.inl rfl,.inl rfl⟩,rfl⟩
    | [],h1,_=>exact h1.elim
    | [_],h1,_=>exact h1.2.elim
    | _::_::_::_,h1,_=>exact h1.2.2.elim
  · exact ⟨hr.1,fun blk=>BH.of_noAny hn,hnm⟩
theorem qr (hs : Sim P n0 nt β σ s a w) {ctx : List (Nat × Bool)} (hf : Facts a ctx) {id : Nat} (hid : Fresh a s id) {o : Oper} {as : List Bool} {r : AC0 E N} {wr : Wr (std E N)} {m m' : Nat}
    (h:RM.run s (I3 P ctx id o.op) m=.ok ((as,r,wr),m')) (has:∀ b∈as,b=true):PR P n0 β σ s a w o id r wr:=by
  cases hop:o.op with
  | alloc T =>
    rw [hop] at h;simp only [I3] at h
    split at h
    · rename_i z hz;obtain ⟨_,m1,h1,h2⟩:=zza h;have hr:=zzc h2;simp only [Prod.mk.injEq] at hr;obtain ⟨rfl,rfl,rfl⟩:=hr;obtain ⟨ti,v,hi,hiz,hzv,hrz,hnz,hoz⟩:=MY (n0:=n0) (β:=β) (σ:=σ) (s:=s) (w:=w) hz;have hg:=zzd h1;rw [zzj] at hg;obtain ⟨q1,q2,q3⟩:=qt hz hi hiz hg.2 hrz hnz;refine jm hs hid (T:=T) q1 (fun n _=>by rw [q3];simp) q2 ?_;refine MQ (x:=Instr.alloc T true (.tuple #[])) (by simp [execOp,hop]) ?_;simp [Instr.alloc,hzv,newVar,newRow]
    · exact (zzb h).elim
  | box T x =>
    rw [hop] at h;simp only [I3] at h;obtain ⟨v,m1,h1,h2⟩:=zza h;obtain ⟨_,m2,h3,h4⟩:=zza h2;have hr:=zzc h4;simp only [Prod.mk.injEq] at hr;obtain ⟨rfl,rfl,rfl⟩:=hr;obtain ⟨hv,hn⟩:=KY hs hf h1;refine jm hs hid (T:=T) hv.1 hn (fun _=>BH.of_noAny (zzd h3)) ?_;refine MQ (x:=Instr.box T (a.eval x)) (by simp [execOp,hop]) ?_;simp [Instr.box,newVar,newRow]
  | buildSlice T len parts=>rw [hop] at h;exact SZ hs hf hid hop h
  | makeSlice T len cap=>rw [hop] at h;exact eA hs hf hid hop h has
  | convert src dst x=>rw [hop] at h;exact nn hs hf hid hop h
  | call c =>
    rw [hop] at h;have hb:c.callee=.builtin .append:=by
      simp only [I3] at h
      split at h
      · rename_i hc _ _;exact hc
      · exact (zzb h).elim
    exact kv hs hf hid hop hb h has
  | _=>rw [hop] at h;exact (zzb h).elim
theorem rI (hs : Sim P n0 nt β σ s a w) {ctx : List (Nat × Bool)} (hf : Facts a ctx) {id : Nat} (hid : Fresh a s id) {o : Oper} {c : AC0 E N} {m m' : Nat}
    (h:RM.run s (sF P ctx id o.op) m=.ok (c,m')):PR P n0 β σ s a w o id c ({}:Wr (std E N)):=by
  cases hop:o.op with
  | buildSlice T len parts =>
    rw [hop] at h;obtain ⟨⟨as,c1,w1⟩,m1,h1,h2⟩:=zza h;obtain ⟨z,β',σ',w',r1,r2,r3,r4,r5,r6,r7⟩:=SZ hs hf hid hop h1;simp only at h2
    split at h2
    case h_2=>exact (zzb h2).elim
    rename_i e q j hh hhs hbs
    split at h2
    case h_2=>exact (zzb h2).elim
    rename_i hg;have hr:=zzc h2;subst hr;simp only [zzj] at hg;have e1:=AD.1 hg.1;have e2:=AD.1 hg.2.1;have e3:=AD.1 hg.2.2;subst e1 e2 e3;have gH:∀ n,(s.apply w1).getH n=if n=j then some hh else s.getH n:=fun n=>by
      show AH (BA s.hp w1.hs) n=_;rw [hhs];show AH (NF s.hp j (some hh)) n=_;rw [BB];rfl
    have gB:∀ n,(s.apply w1).getB n=s.getB n:=fun n=>by
      show AH (BA s.bx w1.bs) n=_;rw [hbs];rfl
    have zB:=fun n=>State.getB_apply0 s ({}:Wr (std E N)) rfl n
    have zH:=fun n=>State.getH_apply0 s ({}:Wr (std E N)) rfl n
    have nq:∀ n h,s.getH n=some h→n≠j:=fun n h hn e=>hid.h n h hn e.symm
    have sub:Sub (s.apply w1) (s.apply ({}:Wr (std E N))):=⟨fun n e' he=>⟨e',by rw [gB];rw [zB] at he;exact he,rfl⟩,fun n h' he=>by
      rw [zH] at he;exact ⟨h',by rw [gH,if_neg (nq n h' he)];exact he,rfl,rfl,rfl,fun h=>h⟩⟩
    have hget:(s.apply w1).getH j=some hh:=by rw [gH,if_pos rfl]
    let fr:List (Nat×Option (HEnt (std E N))):=[(j,some { hh with frozen:=true,dirty:=true })]
    have run:RM.run (s.apply w1) (dN (O:=std E N) (AC.own hh.e j)) 0=.ok ((.rows hh.l,fr,hh.nw),0 ||| D5 (3 * j+2)):=by
      show RM.run (s.apply w1) (RM.h j _) 0=_;simp only [RM.run];rw [hget];rfl
    obtain ⟨k1,k2,k3⟩:=Xy r2 r5 run;have sf:=k1.sub (wr:=({ hs:=fr }:Wr (std E N))) rfl rfl;have sfH:∀ n,((s.apply w1).apply ({ hs:=fr }:Wr (std E N))).getH n=if n=j then some { hh with frozen:=true,dirty:=true } else s.getH n:=fun n=>by
      show AH (NF (s.apply w1).hp j (some { hh with frozen:=true,dirty:=true })) n=_;rw [BB]
      by_cases e:n=j
      · rw [if_pos e,if_pos e]
      · rw [if_neg e,if_neg e];have:=gH n;rw [if_neg e] at this;exact this
    have r5':=r5;obtain ⟨⟨t0,ht0,_⟩,_⟩:=r5';have rep:=k3 t0 _ (by rw [ht0];exact AD.2 rfl) sf (fun x hx h hn=>by
      simp [fr] at hx;subst hx;rw [sfH,if_pos rfl] at hn;cases hn;rfl) (fun x hx=>by
      simp [fr] at hx;subst hx;exact ⟨_,by rw [sfH,if_pos rfl]⟩) hh.nw (fun h=>h)
    have inc:∀ b,InM β' σ' (s.apply ({}:Wr (std E N))) b→InM β' σ' ((s.apply w1).apply ({ hs:=fr }:Wr (std E N))) b:=fun b hb=>by
      rcases hb with ⟨n,e,he,hb⟩ | ⟨n,h,cap,he,hfz,hb⟩
      · exact .inl ⟨n, e, by
          rw [zB] at he;show AH (BA (s.apply w1).bx []) n=_;exact (gB n).trans he,hb⟩
      · rw [zH] at he;exact .inr ⟨n,h,cap,by rw [sfH,if_neg (nq n h he)];exact he,hfz,hb⟩
    refine ⟨z,β',σ',w',r1,sub.mem r2,(r3.trans (sub.ext P (fun _=>False) β' σ' w')).weaken (fun n h=>h.elim (fun h=>h) (fun h=>h.elim)),⟨fun n hf _=>?_,fun n b hb _=>by rw [zB] at hb;exact hb,fun n b hb _=>by rw [zH] at hb;exact hb⟩,?_,fun n _ _=>by simp [AC.names],rfl⟩
    · exact ⟨fun k tv hk=>by rw [State.getT_apply0 s _ rfl] at hk;exact hf.t k tv hk,fun k b hb=>by rw [zB] at hb;exact hf.b k b hb,fun k b hb=>by rw [zH] at hb;exact hf.h k b hb⟩
    · exact ⟨t0,ht0,rep.st (fun b hb=>⟨fun hm=>hb.1 (inc b hm),hb.2⟩)⟩
  | _=>rw [hop] at h;exact (zzb h).elim
end
end Go.Px
end
