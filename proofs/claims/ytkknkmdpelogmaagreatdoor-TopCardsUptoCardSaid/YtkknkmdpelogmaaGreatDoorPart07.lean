/- Part 7. -/
import Derived.Test.YtkknkmdpelogmaaGreatDoorPart06
set_option linter.unusedVariables false
set_option linter.unusedSimpArgs false
section
namespace Go.Px
section
variable {E:Env} {N:Nat} {P:Program} {cfg:Cfg} {s s' s2:St0 E N}
def TOnly{O:Alg}{α:Type}:RM O α→Prop
 | .ret _=>True
 | .fail _=>True
 | .t _ f=>∀v,TOnly (f v)
 | .b _ _=>False
 | .h _ _=>False
theorem TOnly.bind{O:Alg}{α β:Type}{f:α→RM O β}(hf:∀a,TOnly (f a)):∀{x:RM O α},TOnly x→TOnly (x.bind f)
 | .ret a,_=>hf a
 | .fail _,_=>trivial
 | .t _ g,h=>fun v=>TOnly.bind hf (h v)
 | .b _ _,h=>h.elim
 | .h _ _,h=>h.elim
theorem TOnly.agree{α:Type}:∀{r:RM (std E N) α} {m m':Nat} {x:α},TOnly r→RM.run s r m=.ok (x,m')→(∀n,m'.testBit (3*n)=true→s.getT n=s'.getT n)→RM.run s' r m=.ok (x,m'):=by
 intro r
 induction r with
 |ret v=>intro m m' x _ h _;exact h
 |fail w=>intro m m' x _ h _;trivial
 |t n f ih=>
  intro m m' x ht h ha;have hb:m'.testBit (3*n)=true:=Un (r:=f (s.getT n)) h _ (by rw[Nat.testBit_or,Dg.2 rfl,Bool.or_true]);simp only[RM.run]at h⊢;rw[←ha n hb];exact ih _ (ht _) h ha
 |b n f ih=>intro m m' x ht;trivial
 |h n f ih=>intro m m' x ht;trivial
theorem AB2{O:Alg}{ctx:List (Nat×Bool)}{T:TypeId}(x:Operand):TOnly (ev (O:=O) P ctx T x):=by
 cases x with
 |tmp n=>
  intro v;cases v with
  |none=>trivial
  |some tv=>
   show TOnly (match ZX tv.gs ctx with|true=>_|false=>_);cases ZX tv.gs ctx<;>exact trivial
 |const v=>
  simp only[ev]
  split<;>exact trivial
 |func f=>trivial
 |global g=>trivial
theorem pM{O:Alg}{ctx:List (Nat×Bool)}{T:TypeId}(x:Operand):TOnly (evV (O:=O) P ctx T x):=
 TOnly.bind (fun a=>by cases a<;>exact trivial) (AB2 x)
theorem AAn{O:Alg}{ctx:List (Nat×Bool)}{T:TypeId}(x:Operand):TOnly (evC (O:=O) P ctx T x):=
 TOnly.bind (fun v=>by
  show TOnly (match v.agg,v.cs with|false,[c]=>_|_,_=>_)
  split<;>exact trivial) (pM x)
theorem AAy{O:Alg}{ctx:List (Nat×Bool)}{T:TypeId}{m:Nat}(x:Operand):TOnly (UN (O:=O) P ctx T m x):=
 TOnly.bind (fun v=>TOnly.bind (fun ks=>TOnly.bind (fun _=>(show TOnly (RM.ret ks)from trivial)) (by unfold RM.guard;split<;>exact trivial)) (by unfold RM.ofOpt;split<;>exact trivial)) (pM x)
theorem px{ctx:List (Nat×Bool)}{T:TypeId}{n:Nat}{k:Operand}{ks:List Int}{m m':Nat}(h:RM.run s (UN (O:=std E N) P ctx T n k) m=.ok (ks,m')):ks.length=n%16:=by
 obtain⟨kv,m1,h1,h2⟩:=zza h;obtain⟨ks',m2,h3,h4⟩:=zza h2;obtain⟨_,m3,h5,h6⟩:=zza h4;cases zzc h6;exact AE.1 (zzd h5)
theorem ACD{n:Nat}{k k':List Int}(hk:k.length=n)(L:Rows):Bq n k' (DL n k (.int (Bq n k L)) L)=Bq n k' L:=by
 have ml:=Lp n k L;have ml':=Lp n k' L;unfold DL;cases hb:Nat.blt (AX n k L) L.length
 ·have hm:¬AX n k L<L.length:=fun hc=>by
   rw[show Nat.blt (AX n k L) L.length=true from Nat.ble_eq_true_of_le hc]at hb;cases hb
  rw[cond_false]
  by_cases hq:AX n k' L<L.length
  ·unfold Bq Mi;rw[Uu,if_pos hq];unfold AD AB
   grind
  have z:Bq n k' L=0:=by unfold Bq;rw[Y3 hq];rfl
  have z2:Bq n k L=0:=by unfold Bq;rw[Y3 hm];rfl
  rw[z,z2];unfold Bq Mi;rw[Uu,if_neg hq,Z9 hk];cases hkk:k'==k
  ·rw[cond_false];unfold AD AB;rw[zzl,List.getElem?_eq_none (by simp_all)];rfl
  rw[cond_true,Nat.add_zero];unfold AD AB;rw[zzl,List.getElem?_append_right (Nat.le_refl _),Nat.sub_self];exact congrArg pvI (ic hk)
 have hm:AX n k L<L.length:=Nat.le_of_ble_eq_true hb;rw[cond_true];unfold Bq Mi;rw[Zn,dD]
 by_cases hq:AX n k L=AX n k' L
 ·rw[if_pos ⟨hq,by omega⟩,←hq];show pvI (((AB L (AX n k L)).set n _).getD n _)=_;rw[zzl,List.getElem?_set_self'];unfold AD AA;rw[zzl];cases(AB L (AX n k L))[n]?<;>rfl
 simp_all
def LikeM(P:Program)(s s':St0 E N)(p:Nat):Prop:=
 Cp s p=Cp s' p∨∃q n en en',p=3*q+2∧s.getH q=some en∧s'.getH q=some en'∧en'.e=en.e∧en'.frozen=en.frozen∧en.e=DP P n∧n.testBit 5=false∧∀k,k.length=n%16→Bq (n%16) k en'.l=Bq (n%16) k en.l
theorem LikeM.refl(s:St0 E N)(p:Nat):LikeM P s s p:=.inl rfl
theorem LikeM.trans{p:Nat}(h:LikeM P s s' p)(h2:LikeM P s' s2 p):LikeM P s s2 p:=by
 rcases h with h|⟨q,n,en,en',rfl,a1,a2,a3,a4,a5,a7,a6⟩
 ·rcases h2 with h2|⟨q,n,en,en',rfl,a1,a2,a3,a4,a5,a7,a6⟩
  ·exact .inl (h.trans h2)
  exact .inr ⟨q,n,en,en',rfl,(fF h).trans a1,a2,a3,a4,a5,a7,a6⟩
 rcases h2 with h2|⟨q',n',en1,en2,hq,b1,b2,b3,b4,b5,b7,b6⟩
 ·exact .inr ⟨q,n,en,en',rfl,a1,(fF h2).symm.trans a2,a3,a4,a5,a7,a6⟩
 have:q'=q:=by omega
 subst this;rw[a2]at b1;cases b1;have hn:n'=n:=Q0 (P:=P) (b5.symm.trans (a3.trans a5));subst hn;exact .inr ⟨q',n',en,en2,rfl,a1,b2,b3.trans a3,b4.trans a4,a5,a7,fun k hk=>(b6 k hk).trans (a6 k hk)⟩
theorem ABY{o:Oper}(h:kK o=true):∃T m k,o.op=.lookup T m k false∧o.guard=none:=by
 unfold kK at h
 grind
theorem ABZ{o:Oper}(h:kV o=true):∃T m k,o.op=.mapEntry T m k∧o.guard=none:=by
 unfold kV at h
 grind
theorem gU{all:List Oper}{o:Oper}{id:Nat}{sp:Spec}(hsp:PB cfg o.op=some sp)(hg:o.guard=none):FY (O:=std E N) P cfg all o id=(PC P [] id o.dst sp).bind fun
    |some r=>.ret r
    |none=>XC P cfg [] none o id:=by
  unfold FY Wf;rw[hg];show rh P cfg [] none o id=_;simp only[rh,hsp]
  grind
theorem zzj{α β:Type}{x:RM (std E N) α}{f:α→RM (std E N) β}{m m1:Nat}{a:α}(h:RM.run s x m=.ok (a,m1)):RM.run s (x.bind f) m=RM.run s (f a) m1:=by
 rw[zzi,h]
theorem tU{T:TypeId}{n:Nat}{c:AC0 E N}{q:Nat}{en:HEnt (std E N)}{m m':Nat}(h:RM.run s (Vv P T n c) m=.ok ((q,en),m')) :
    ∃e,c=.mp e q∧s.getH q=some en∧(!en.frozen&&((Nat.beq e (DP P n)&&Nat.beq en.e e)&&Mc P T n))=true∧m'=m ||| C3 (3*q+2):=by
  unfold Vv at h
  split at h
  · rename_i e q';simp only[RM.run]at h;cases hh:s.getH q' with
    |none=>rw[hh]at h;cases h
    |some en'=>
      rw[hh]at h;simp only at h
      split at h
      · rename_i hg;simp only[RM.run]at h
        grind
      cases h
  cases h
theorem zm{T:TypeId}{n e q:Nat}{en:HEnt (std E N)}(hh:s.getH q=some en)(hc:(!en.frozen&&((Nat.beq e (DP P n)&&Nat.beq en.e e)&&Mc P T n))=true)(m:Nat) :
    RM.run s (Vv P T n (.mp e q)) m=.ok ((q,en),m ||| C3 (3*q+2)):=by
  simp only[Vv,RM.run,hh,hc]
theorem ABd{all:List Oper}{o:Oper}(hget:kK o=true){t:Rc E N}(h:OpGood P cfg all o s t)(ha:∀p,t.rd.testBit p=true→LikeM P s s' p):OpGood P cfg all o s' t:=by
 obtain⟨T,m,k,hop,hg⟩:=ABY hget;have hsp:PB cfg o.op=some (.mapGet T m k):=by rw[hop];rfl
 have aT:∀n,t.rd.testBit (3*n)=true→s.getT n=s'.getT n:=fun n hn=>by
  rcases ha _ hn with h|⟨q,_,_,_,h,_⟩
  ·exact sW h
  ·omega
 have key:∀r,RM.run s (FY (O:=std E N) P cfg all o t.id) 0=.ok (r,t.rd)→RM.run s' (FY (O:=std E N) P cfg all o t.id) 0=.ok (r,t.rd):=fun r h1=>by
  rw[gU hsp hg]at h1⊢;obtain⟨x,mx,h2,h3⟩:=zza h1;have h2:RM.run s ((evC P [] T m).bind fun c=>(UN P [] (Kl P T).1 (mapM P T) k).bind fun ks=>aH P [] o.dst T c ks) 0=.ok (x,mx):=h2;obtain⟨c,m1,h4,h5⟩:=zza h2;obtain⟨ks,m2,h6,h7⟩:=zza h5;unfold aH at h7
  split at h7
  case h_2=>trivial
  rename_i d hd;have hks:=px h6;obtain⟨⟨q,en⟩,m3,h8,h9⟩:=zza h7;obtain⟨e,rfl,hh,hcond,hm3⟩:=tU h8;obtain⟨v,m4,h10,h11⟩:=zza h9;have hv:=zzh h10
  replace h9 : RM.run s ((RM.ofOpt "a map" (vg P T en ks)).bind fun v => RM.ret (some (StepRes.plain [] { ts := [(d, some ⟨[], one v⟩)] }))) m3 = .ok (x, mx) := h9
  rw[hv]at h9
  replace h9:RM.run s (RM.ret (some (StepRes.plain [] { ts:=[(d,some ⟨[],one v⟩)] }))) m3=.ok (x,mx):=h9
  have hx:=zzc h9;have hm:mx=m3:=by simp only[RM.run]at h9;grind
  subst hx;simp only[RM.run]at h3;have hr:r=_:=(congrArg (fun z=>match z with|Except.ok (a,_)=>a|_=>r) h3).symm;have hrd:mx=t.rd:=by grind
  have mono:∀p,m2.testBit p=true→t.rd.testBit p=true:=fun p hp=>by simp_all
  have a1:=(AAn (O:=std E N) (P:=P) (ctx:=[]) (T:=T) m).agree h4 (s':=s') (fun n hn=>aT n (mono _ (Un h6 _ hn)));have a2:=(AAy (O:=std E N) (P:=P) (ctx:=[]) (T:=(Kl P T).1) k).agree h6 (s':=s') (fun n hn=>aT n (mono _ hn));have a3:∃en',s'.getH q=some en'∧en'.e=en.e∧en'.frozen=en.frozen∧vg P T en' ks=some v:=by
   have hb:t.rd.testBit (3*q+2)=true:=by rw[←hrd,hm,hm3,Nat.testBit_or,Dg.2 rfl,Bool.or_true]
   rcases ha _ hb with h|⟨q',n,en1,en2,hq,b1,b2,b3,b4,b5,b7,b6⟩
   ·exact⟨en,(fF h).symm.trans hh,rfl,rfl,hv⟩
   ·have:q'=q:=by omega
    subst this;rw[hh]at b1;cases b1;simp only[zzk]at hcond;have e1:=AE.1 hcond.2.1.1;have e2:=AE.1 hcond.2.1.2;have hn:n=mapM P T:=Q0 (P:=P) (b5.symm.trans (e2.trans e1));subst hn;refine⟨en2,b2,b3,b4,?_⟩;have b8:=b6 ks hks;rw[←hks]at b8;rw[←hv];unfold vg;rw[b7];show some (AC.int IntKind.i64 (Bq ks.length ks en2.l):AC (std E N))=some (AC.int IntKind.i64 (Bq ks.length ks en.l));rw[b8]
  obtain⟨en',c1,c2,c3,c4⟩:=a3;rw[zzj (s:=s') (x:=PC P [] t.id o.dst (.mapGet T m k)) (a:=some r) (m1:=t.rd)]
  ·rfl
  show RM.run s' ((evC P [] T m).bind fun c=>(UN P [] (Kl P T).1 (mapM P T) k).bind fun ks=>aH P [] o.dst T c ks) 0=_;rw[zzj a1,zzj a2];unfold aH;rw[hd];simp only;rw[zzj (zm c1 (by simp_all) m2)];simp only[c4,RM.ofOpt,RM.bind,RM.run]
  simp_all
 rcases h with⟨as,h1,h2⟩|⟨g,f,fns,ls,dm,next,c,h1,h2,h3⟩
 ·exact .inl ⟨as,key _ h1,h2⟩
 ·exact .inr ⟨g,f,fns,ls,dm,next,c,key _ h1,h2,h3⟩
theorem AA6{all:List Oper}{o:Oper}(hent:kV o=true){t:Rc E N}(h:OpGood P cfg all o s t){p:Nat}(hp:p%3=2):LikeM P s (s.apply t.wr) p:=by
 obtain⟨T,m,k,hop,hg⟩:=ABZ hent;have hsp:PB cfg o.op=some (.mapEnt T m k):=by rw[hop];rfl
 have key:∀r,RM.run s (FY (O:=std E N) P cfg all o t.id) 0=.ok (r,t.rd)→∃(d q n:Nat) (tv:TV (std E N)) (en:HEnt (std E N)) (ks:List Int),r=.plain [] { ts:=[(d,some tv)],hs:=[(q,some { en with l:=iX (std E N) en.l ks (.int (iU (std E N) en.l ks)),dirty:=true })] }∧s.getH q=some en∧∃mm,en.e=DP P mm∧mm.testBit 5=false∧ks.length=mm%16:=fun r h1=>by
  rw[gU hsp hg]at h1;obtain⟨x,mx,h2,h3⟩:=zza h1;have h2:RM.run s ((evC P [] T m).bind fun c=>(UN P [] (Kl P T).1 (mapM P T) k).bind fun ks=>lM P [] o.dst T c ks) 0=.ok (x,mx):=h2;obtain⟨c,m1,h4,h5⟩:=zza h2;obtain⟨ks,m2,h6,h7⟩:=zza h5;have hks:=px h6;unfold lM at h7
  split at h7
  case h_2=>trivial
  rename_i d hd hb;obtain⟨⟨q,en⟩,m3,h8,h9⟩:=zza h7;obtain⟨e,rfl,hh,hcond,hm3⟩:=tU h8;have hx:=zzc h9;subst hx;have hr:=zzc h3;simp only[zzk]at hcond;exact⟨d,q,0,_,en,ks,hr.symm,hh,mapM P T,(AE.1 hcond.2.1.2).trans (AE.1 hcond.2.1.1),hb,hks⟩
 have fin:∀wr,(∃(d q n:Nat) (tv:TV (std E N)) (en:HEnt (std E N)) (ks:List Int),wr={ ts:=[(d,some tv)],hs:=[(q,some { en with l:=iX (std E N) en.l ks (.int (iU (std E N) en.l ks)),dirty:=true })] }∧s.getH q=some en∧∃mm,en.e=DP P mm∧mm.testBit 5=false∧ks.length=mm%16)→LikeM P s (s.apply wr) p:=fun wr hw=>by
  obtain⟨d,q,n,tv,en,ks,rfl,hh,mm,he,hb,hks⟩:=hw
  by_cases hpq:p=3*q+2
  ·refine .inr ⟨q,mm,en,{ en with l:=iX (std E N) en.l ks (.int (iU (std E N) en.l ks)),dirty:=true },hpq,hh,?_,rfl,rfl,he,hb,fun k' hk'=>?_⟩
   ·unfold State.getH State.apply;simp only[BR];rw[BW,if_pos rfl]
   show Bq _ _ (iX (std E N) en.l ks (.int (iU (std E N) en.l ks)))=_;rw[←hks];exact ACD rfl en.l
  refine .inl (MJ ?_).symm;rw[Vo]
  grind
 rcases h with⟨as,h1,h2⟩|⟨g,f,fns,ls,dm,next,c,h1,h2,h3⟩
 ·grind
 simp_all
end
section
variable {E:Env} {N:Nat} {P:Program} {cfg:Cfg} {n0 n0':Nz} {nt:Nat} {β β':Nat→Option Nat} {σ σ':Nat→Option (Nat×Nat)} {s s' s2:St0 E N} {a:Act} {w w':World}
theorem hZ:∀(ops:List Oper) (acc:List Nat) (k:Nat) (o:Oper),ops[k]?=some o→∀j,((B3 ops acc).getD (acc.length+k) 0).testBit j=true →
    ∃e∈o.after.toList,Region.binds .any e=true∧(j=e.on∨(e.on<acc.length+k∧((B3 ops acc).getD e.on 0).testBit j=true))
  | [],acc,k,o,h=>by simp at h
  |x::ops,acc,k,o,h=>by
    have pre:∀(ops:List Oper) (acc:List Nat) (i:Nat),i<acc.length→(B3 ops acc).getD i 0=acc.getD i 0:=fun ops=>by
      induction ops with
      |nil=>intro acc i _;rfl
      |cons y ops ih=>
        intro acc i hi;simp only[B3];rw[ih _ _ (by simp;omega)];simp only[zzl];rw[List.getElem?_append_left hi]
    cases k with
    |succ k=>
      intro j hj;obtain⟨m,hm⟩:∃m,B3 (x::ops) acc=B3 ops (acc++[m]):=⟨_,rfl⟩;rw[hm]at hj⊢;have hl:(acc++[m]).length+k=acc.length+(k+1):=by simp;omega
      have:=hZ ops (acc++[m]) k o (by simpa using h) j (by rw[hl];exact hj);rw[hl]at this;exact this
    |zero=>
      simp at h;subst h;intro j hj;simp only[B3]at hj⊢;rw[pre _ _ _ (by simp)]at hj;simp only[zzl,Nat.add_zero]at hj;rw[List.getElem?_append_right (Nat.le_refl _)]at hj;simp only[Nat.sub_self,List.getElem?_cons_zero,Option.getD_some]at hj;have key:∀(es:List Edge) (m:Nat),(es.foldl (fun s (e:Edge)=>match e.ground with
    | .textOnly _ | .gcOnly _=>s
    | _ => s ||| C3 e.on ||| acc.getD e.on 0) m).testBit j = true → m.testBit j = true ∨ ∃ e ∈ es, Region.binds .any e = true ∧ (j = e.on ∨ (acc.getD e.on 0).testBit j = true) := fun es => by
        induction es with
        |nil=>intro m h;exact .inl h
        |cons e es ih=>
          intro m h;simp only[List.foldl_cons]at h
          rcases ih _ h with h1|⟨e',h1,h2⟩
          · have hb:(m.testBit j=true)∨(Region.binds .any e=true∧(j=e.on∨(acc.getD e.on 0).testBit j=true)):=by
              unfold Region.binds
              split at h1
              · exact .inl h1
              · exact .inl h1
              rename_i hg1 hg2;rw[Nat.testBit_or,Nat.testBit_or,Bool.or_eq_true,Bool.or_eq_true,Dg]at h1;have hbnd:(match e.ground with
                  | .textOnly _=>Region.Mode.any==.text
                  | .gcOnly _=>Region.Mode.any==.gc
                  |_=>true)=true:=by
                split
                · rename_i hx;exact(hg1 _ hx).elim
                · rename_i hx;exact(hg2 _ hx).elim
                rfl
              rcases h1 with(h1|h1)|h1
              · exact .inl h1
              · exact .inr ⟨hbnd,.inl h1.symm⟩
              exact .inr ⟨hbnd,.inr h1⟩
            rcases hb with h|h
            · exact .inl h
            exact .inr ⟨e,zzm,h⟩
          exact .inr ⟨e',zzn _ h1,h2⟩
      rcases key _ 0 hj with h|⟨e,h1,h2,h3⟩
      · simp at h
      refine⟨e,h1,h2,h3.imp (fun h=>h) (fun h=>?_)⟩
      by_cases he:e.on<acc.length
      · exact⟨by omega,by rw[pre _ _ _ (by simp;omega)];simp only[zzl]at h⊢;rw[List.getElem?_append_left he];exact h⟩
      simp only[zzl]at h;rw[List.getElem?_eq_none (by omega)]at h;simp at h
theorem mD:∀{ops:List Oper} {i:Nat},ek i ops=true→∀(k:Nat) (o:Oper),ops[k]?=some o→∀e∈o.after.toList,Region.binds .any e=true→e.on<i+k
 | [],i,_,k,o,h,_,_,_=>by simp at h
 |x::ops,i,hb,k,o,h,e,he,hbd=>by
  simp only[ek,zzk]at hb;cases k with
  |succ k=>
   have:=mD hb.2 k o (by simpa using h) e he hbd;omega
  |zero=>
   simp at h;subst h;have:=List.all_eq_true.1 hb.1 e he;unfold Region.binds at hbd
   split at hbd
   ·simp at hbd
   ·simp at hbd
   rename_i h1 h2
   split at this
   ·rename_i hx;exact(h1 _ hx).elim
   ·rename_i hx;exact(h2 _ hx).elim
   exact A5.1 this
theorem gX{ex:Nat→Nat→Bool}{j bj rj wj:Nat}:∀{i:Nat} {l:List (Nat×Nat)},OW.inner ex j bj rj wj i l=true→∀(k r w:Nat),l[k]?=some (r,w)→i+k<j→bj.testBit (i+k)=true∨(w &&& (rj ||| wj)=0∧(wj &&& r=0∨(ex (i+k) j=true∧yf (wj &&& r)=true)))
 |i,[],_,k,r,w,h,_=>by simp at h
 |i,(r',w')::l,hi,k,r,w,h,hlt=>by
  simp only[OW.inner]at hi
  split at hi
  ·rename_i hle;have:=Nat.le_of_ble_eq_true hle;omega
  split at hi
  ·rename_i hor;cases k with
   |zero=>
    simp at h;obtain⟨rfl,rfl⟩:=h;simp only[Bool.or_eq_true,zzk,AE]at hor;simpa using hor
   |succ k=>
    have:=gX hi k r w (by simpa using h) (by omega);rw[show i+(k+1)=i+1+k by omega];exact this
  cases hi
theorem iA{ex:Nat→Nat→Bool}{ms:List (Nat×Nat)}:∀{j:Nat} {bs:List Nat} {l:List (Nat×Nat)},OW.outer ex ms j bs l=true→∀(k b r w:Nat),bs[k]?=some b→l[k]?=some (r,w)→OW.inner ex (j+k) b r w 0 ms=true
 |j,[],l,_,k,b,r,w,h,_=>by simp at h
 |j,b'::bs,[],_,k,b,r,w,_,h=>by simp at h
 |j,b'::bs,(r',w')::l,ho,k,b,r,w,h1,h2=>by
  simp only[OW.outer]at ho
  split at ho
  ·rename_i hi;cases k with
   |zero=>
    simp at h1 h2;obtain⟨rfl,rfl⟩:=h2;subst h1;exact hi
   |succ k=>
    have:=iA ho k b r w (by simpa using h1) (by simpa using h2);rw[show j+(k+1)=j+1+k by omega];exact this
  cases ho
theorem Rd{x y p:Nat}(h:x &&& y=0)(hx:x.testBit p=true)(hy:y.testBit p=true):False:=by
 have:=congrArg (fun n=>n.testBit p) h;simp[Nat.testBit_and,hx,hy]at this
def XZ(D:Nat→Bool):Nat→List Oper→List Nat
 |_,[]=>[]
 |i,o::r=>(match D i with|true=>o.dst.toList|false=>[])++XZ D (i+1) r
theorem Lg{D:Nat→Bool}{d:Nat}:∀{l:List Oper} {i:Nat},d∈XZ D i l↔∃k o,l[k]?=some o∧D (i+k)=true∧o.dst=some d
 | [],i=>by simp[XZ]
 |x::l,i=>by
  simp only[XZ,List.mem_append,Lg (l:=l)];constructor
  ·rintro(h|⟨k,o,h1,h2,h3⟩)
   ·cases hD:D i
    ·rw[hD]at h;simp at h
    rw[hD]at h;exact⟨0,x,rfl,hD,by simpa using h⟩
   exact⟨k+1,o,by simpa using h1,by rw[show i+(k+1)=i+1+k by omega];exact h2,h3⟩
  rintro⟨k,o,h1,h2,h3⟩
  cases k with
  |zero=>
   simp at h1;subst h1;rw[Nat.add_zero]at h2;rw[h2];exact .inl (by simpa using h3)
  |succ k=>exact .inr ⟨k,o,by simpa using h1,by rw[show i+1+k=i+(k+1) by omega];exact h2,h3⟩
theorem hP:∀{l:List Oper},(Ar l).Nodup→∀{i j:Nat} {o o':Oper} {d:Nat},l[i]?=some o→l[j]?=some o'→o.dst=some d→o'.dst=some d→i=j
 | [],_,i,j,o,o',d,h,_,_,_=>by simp at h
 |x::l,hn,i,j,o,o',d,hi,hj,ho,ho'=>by
  have hn2:(Ar l).Nodup:=by
   simp only[Ar]at hn;cases hx:x.dst with
   |none=>rw[hx]at hn;exact hn
   |some y=>rw[hx]at hn;exact(List.nodup_cons.1 hn).2
  have hx:∀{y},x.dst=some y→y∉Ar l:=fun{y} hx=>by
   simp only[Ar]at hn;rw[hx]at hn;exact(List.nodup_cons.1 hn).1
  cases i with
  |zero=>
   cases j with
   |zero=>rfl
   |succ j=>
    simp at hi;subst hi;exact(hx ho (H3 (l:=l) (k:=j) (by simpa using hj) ho')).elim
  |succ i=>
   cases j with
   |zero=>
    simp at hj;subst hj;exact(hx ho' (H3 (l:=l) (k:=i) (by simpa using hi) ho)).elim
   |succ j=>exact congrArg (·+1) (hP hn2 (by simpa using hi) (by simpa using hj) ho ho')
structure Inv(P:Program)(n0:Nz)(nt L:Nat)(ops:List Oper)(tr:List (Rc E N))(β:Nat→Option Nat)(σ:Nat→Option (Nat×Nat))(s:St0 E N)(a:Act)(w:World)(D:Nat→Bool)(a':Act)(w':World):Prop where
 post:∃β' σ',Post P n0 nt L (fun n=>n∈Ar ops) β σ s a w β' σ' (stD D 0 tr s) a' w'
 gi:GI (stD D 0 tr s) (XZ D 0 ops)
 fresh:∀n,L≤n→(∀(i:Nat) (o:Oper) (t:Rc E N),D i=true→ops[i]?=some o→tr[i]?=some t→¬(t.id≤n∧n<t.id+Bn P o))→Fresh a' (stD D 0 tr s) n
theorem pT{p q:Nat→Bool}(h:∀x,q x=true→p x=true):∀l:List Nat,(l.filter q).length≤(l.filter p).length
 | []=>Nat.le_refl _
 |x::l=>by
  have ih:=pT h l;simp only[List.filter_cons];cases hq:q x
  ·cases p x
   ·simpa using ih
   simp;omega
  rw[h x hq];simp;exact ih
theorem qJ{p q:Nat→Bool}{i:Nat}(hp:p i=true)(hq:q i=false)(h:∀x,q x=true→p x=true):∀l:List Nat,i∈l→(l.filter q).length<(l.filter p).length
 | [],hi=>by simp at hi
 |x::l,hi=>by
  simp only[List.filter_cons]
  rcases List.mem_cons.1 hi with rfl|hi
  ·rw[hp,hq];have:=pT h l;simp;omega
  have ih:=qJ hp hq h l hi;cases hqx:q x
  ·cases p x
   ·simpa using ih
   simp;omega
  rw[h x hqx];simp;exact ih
theorem zA{ops:Array Oper}{Q:Exit→Act→World→Prop}{fuel:Nat}{listed:Array Bool}{a:Act}{w:World}(hall:∀i,i<ops.size→listed.getD i true=true)(h:Q .normal a w):wpAny P .any ops Q fuel listed a w:=by
 have hr:Region.ready .any ops listed=[]:=by
  cases hr:Region.ready .any ops listed with
  |nil=>rfl
  |cons x l=>
   have hx:x∈Region.ready .any ops listed:=by rw[hr];exact zzm
   rw[mem_ready]at hx;obtain⟨h1,o,h2,_⟩:=hx;rw[hall x (Array.getElem?_eq_some_iff.1 h2).1]at h1;cases h1
 cases fuel with
 |zero=>exact⟨hr,h⟩
 |succ n=>exact⟨fun _=>h,fun i hi=>by rw[hr]at hi;cases hi⟩
theorem qK(hΓ:GamOK P E N cfg){ops:Array Oper}(hnd:(Ar ops.toList).Nodup)(hgd:GM ops.toList 0 (B3 ops.toList []) ops.toList=true)
    (hback:ek 0 ops.toList=true) (hdn:∀d∈Ar ops.toList,d<nt) {Q:Exit→Act→World→Prop} {L:Nat} {tr:List (Rc E N)} {init tail:List Oper} (hsplit:ops.toList=init++tail)
    (htail:tail=[]∨(∃o,tail=[o])∧∀j,j<init.length→((B3 ops.toList []).getD init.length 0).testBit j=true) (htr:TrOK P cfg ops.toList init L s tr)
    (hap:OW (ZE ops.toList) (B3 ops.toList []) (tr.map fun t=>(t.rd,t.wr.mask))=true)
    (hQ:∀D a' w',(∀i,i<init.length→D i=true)→(∀i,init.length≤i→D i=false)→Inv P n0 nt L ops.toList tr β σ s a w D a' w'→wpOps P ops Q (List.range' init.length tail.length) a' w') :
    ∀(fuel:Nat) (listed:Array Bool) (a':Act) (w':World),listed.size=ops.size→((List.range ops.size).filter fun i => !listed.getD i false).length≤fuel →
      (∀i j,listed.getD i false=true→((B3 ops.toList []).getD i 0).testBit j=true→listed.getD j false=true)→(∀i,init.length≤i→listed.getD i false=false) →
      Inv P n0 nt L ops.toList tr β σ s a w (fun i=>listed.getD i false) a' w'→wpAny P .any ops Q fuel listed a' w':=by
  have hlen:=htr.len;have hopl:ops.toList.length=init.length+tail.length:=by rw[hsplit,List.length_append]
  have hopz:ops.size=init.length+tail.length:=by rw[←hopl];simp
  have hgI:∀{i:Nat} {o:Oper},i<init.length→ops.toList[i]?=some o→init[i]?=some o:=fun{i o} hi ho=>by
    rw[hsplit,List.getElem?_append_left hi]at ho;exact ho
  have hgO:∀{i:Nat} {o:Oper},init[i]?=some o→ops.toList[i]?=some o:=fun{i o} ho=>by
    rw[hsplit,List.getElem?_append_left (List.getElem?_eq_some_iff.1 ho).1];exact ho
  have hbs:(B3 ops.toList []).length=ops.toList.length:=by
    have:∀(l:List Oper) (acc:List Nat),(B3 l acc).length=acc.length+l.length:=fun l=>by
      induction l with
      |nil=>intro acc;simp[B3]
      |cons x l ih=>intro acc;simp only[B3];rw[ih];simp;omega
    rw[this];simp
  have Nb:∀(i j:Nat) (t u:Rc E N),i<j→tr[i]?=some t→tr[j]?=some u→((B3 ops.toList []).getD j 0).testBit i=true∨(t.wr.mask &&& (u.rd ||| u.wr.mask)=0∧(u.wr.mask &&& t.rd=0∨(ZE ops.toList i j=true∧yf (u.wr.mask &&& t.rd)=true))):=fun i j t u hij ht hu=>by
    have hj:j<ops.toList.length:=by have:=(List.getElem?_eq_some_iff.1 hu).1;omega
    have h1:=iA (j:=0) hap j ((B3 ops.toList []).getD j 0) u.rd u.wr.mask (by
      rw[zzl];rw[zzo (by rw[hbs];exact hj)];rfl) (by rw[List.getElem?_map,hu];rfl)
    rw[Nat.zero_add]at h1;have:=gX h1 i t.rd t.wr.mask (by rw[List.getElem?_map,ht];rfl) (by omega)
    rwa[Nat.zero_add]at this
  have allDone:∀(listed:Array Bool),Region.ready .any ops listed=[]→listed.size=ops.size→∀i,i<ops.size→listed.getD i false=true:=fun listed hr hsz i=>by
    induction i using Nat.strongRecOn with
    |_ i ih=>
      intro hi;cases hl:listed.getD i false
      · have:i∈Region.ready .any ops listed:=by
          rw[mem_ready];refine⟨?_,ops[i],by simp[hi],fun e he hb=>?_⟩
          · rw[Array.getD_eq_getD_getElem?]at hl⊢;rw[Array.getElem?_eq_getElem (by rw[hsz];exact hi)]at hl⊢;simpa using hl
          have:=mD hback i ops[i] (by simp[hi]) e (by simpa using he) hb;exact ih e.on (by omega) (by omega)
        rw[hr]at this;simp at this
      rfl
  intro fuel
  induction fuel with
  |zero=>
    intro listed a' w' hsz hf hcl hun inv;have hall:∀i,i<ops.size→listed.getD i false=true:=fun i hi=>by
      have h0:((List.range ops.size).filter fun i => !listed.getD i false)=[]:=List.length_eq_zero_iff.1 (by omega);have:=List.filter_eq_nil_iff.1 h0 i (List.mem_range.2 hi);simpa using this
    have ht0:tail=[]:=by
      rcases htail with h|⟨⟨o,h⟩,_⟩
      · exact h
      have h1:=hall init.length (by rw[hopz,h];simp);rw[hun init.length (Nat.le_refl _)]at h1;cases h1
    have hq:=hQ _ a' w' (fun i hi=>hall i (by omega)) hun inv;rw[ht0]at hq;refine⟨?_,hq⟩;cases hr:Region.ready .any ops listed with
    |nil=>rfl
    |cons x l=>
      have hx:x∈Region.ready .any ops listed:=by rw[hr];exact zzm
      rw[mem_ready]at hx;obtain⟨h1,o,h2,_⟩:=hx;have hi:=(Array.getElem?_eq_some_iff.1 h2).1;have:=hall x hi;rw[Array.getD_eq_getD_getElem?]at h1 this;rw[Array.getElem?_eq_getElem (by rw[hsz];exact hi)]at h1 this;simp at h1 this;rw[this]at h1;cases h1
  |succ fuel ih=>
    intro listed a' w' hsz hf hcl hun inv;refine⟨fun hr=>?_,fun i hi=>?_⟩
    · have hall:=allDone listed hr hsz;have ht0:tail=[]:=by
        rcases htail with h|⟨⟨o,h⟩,_⟩
        · exact h
        have h1:=hall init.length (by rw[hopz,h];simp);rw[hun init.length (Nat.le_refl _)]at h1;cases h1
      have hq:=hQ _ a' w' (fun i hi=>hall i (by omega)) hun inv;rw[ht0]at hq;exact hq
    rw[mem_ready]at hi;obtain⟨h1,o,ho,haft⟩:=hi;have hisz:=(Array.getElem?_eq_some_iff.1 ho).1;have hoL:ops.toList[i]?=some o:=by rw[Array.getElem?_toList];exact ho
    have hDi:listed.getD i false=false:=by
      rw[Array.getD_eq_getD_getElem?]at h1⊢;rw[Array.getElem?_eq_getElem (by rw[hsz];exact hisz)]at h1⊢;simpa using h1
    have hbef:∀j,((B3 ops.toList []).getD i 0).testBit j=true→listed.getD j false=true:=fun j hj=>by
      obtain⟨e,he,hb,h3⟩:=hZ ops.toList [] i o hoL j (by simpa using hj);have hd:=haft e (by simpa using he) hb
      rcases h3 with rfl|⟨_,h3⟩
      · exact hd
      exact hcl e.on j hd h3
    rcases Nat.lt_or_ge i init.length with hil|hil
    case inr=>
      rcases htail with h|⟨⟨ol,h⟩,hbl⟩
      · rw[h]at hopz;simp at hopz;omega
      have hin:i=init.length:=by rw[h]at hopz;simp at hopz;omega
      subst hin;have hall:∀j,j<init.length→listed.getD j false=true:=fun j hj=>hbef j (hbl j hj)
      have hq:=hQ _ a' w' hall hun inv;rw[h]at hq;have hq:wpOp P ops Q init.length (wpOps P ops Q []) a' w':=by rw[←wpOps_cons];exact hq
      refine wpOp_mono (fun a2 w2 h2=>zA (fun j hj=>?_) h2) hq;rw[h]at hopz;simp only[List.length_cons,List.length_nil,Nat.zero_add]at hopz
      rcases Nat.lt_or_ge j init.length with hj2|hj2
      · have:=hall j hj2;rw[Array.getD_eq_getD_getElem?]at this⊢;rw[Array.getElem?_setIfInBounds_ne (by omega)];rw[Array.getElem?_eq_getElem (by omega)]at this⊢;exact this
      have:j=init.length:=by omega
      subst this;rw[Array.getD_eq_getD_getElem?,Array.getElem?_setIfInBounds_self_of_lt (by omega)];rfl
    have htl:i<tr.length:=by rw[hlen];exact hil
    obtain⟨t,ht⟩:∃t,tr[i]?=some t:=⟨tr[i],by simp[htl]⟩;have hoI:=hgI hil hoL;have hgood:=htr.good (i:=0) i o t hoI ht;rw[Nat.zero_add]at hgood;have hgood2:OpGood P cfg ops.toList o (stD (fun i=>listed.getD i false) 0 tr s) t:=by
      cases hget:kK o
      · exact hgood.agree (fun p hp=>LU rfl (fun k u hk hu=>by
          rw[Nat.zero_add]
          rcases Nat.lt_trichotomy k i with hlt|rfl|hgt
          · rcases Nb k i u t hlt hk ht with h|⟨h,_⟩
            · rw[hbef k h];simpa using hlt
            exact(Rd h hu (by rw[Nat.testBit_or,hp];rfl)).elim
          · rw[hDi];simp
          rcases Nb i k t u hgt ht hk with h|⟨_,h|⟨h,_⟩⟩
          · cases hD:listed.getD k false
            · simp;omega
            have:=hcl k i hD h;rw[hDi]at this;cases this
          · exact(Rd h hu hp).elim
          unfold ZE at h;rw[hoL]at h
          split at h
          · rename_i x y hx hy;cases hx;rw[hget]at h;cases h
          cases h))
      refine ABd hget hgood (fun p hp=>?_);have w1:∀k u,k<i→tr[k]?=some u→u.wr.mask.testBit p=true→listed.getD k false=true:=fun k u hlt hk hu=>by
        rcases Nb k i u t hlt hk ht with h|⟨h,_⟩
        · exact hbef k h
        exact(Rd h hu (by rw[Nat.testBit_or,hp];rfl)).elim
      have w2:∀k u,i<k→tr[k]?=some u→u.wr.mask.testBit p=true→listed.getD k false=true→(∃ok,ops.toList[k]?=some ok∧kV ok=true)∧p%3=2:=fun k u hgt hk hu hD=>by
        rcases Nb i k t u hgt ht hk with h|⟨_,h|⟨h,h1⟩⟩
        · have:=hcl k i hD h;rw[hDi]at this;cases this
        · exact(Rd h hu hp).elim
        unfold ZE at h
        split at h
        · rename_i x y hx hy;simp only[zzk]at h;refine⟨⟨y,hy,h.2⟩,?_⟩;unfold yf at h1;simp only[zzk]at h1;have hb:(u.wr.mask &&& t.rd).testBit p=true:=by rw[Nat.testBit_and,hu,hp];rfl
          rw[AE.1 h1.1,Dg]at hb;rw[←hb];exact AE.1 h1.2
        cases h
      have w3:∀k k' u u',k<k'→tr[k]?=some u→tr[k']?=some u'→u.wr.mask.testBit p=true→u'.wr.mask.testBit p=true→listed.getD k' false=true→listed.getD k false=true:=fun k k' u u' hlt hk hk' hu hu' hD=>by
        rcases Nb k k' u u' hlt hk hk' with h|⟨h,_⟩
        · exact hcl k' k hD h
        exact(Rd h hu (by rw[Nat.testBit_or,hu',Bool.or_true])).elim
      have step:∀m,(∀k u,k<i+m→tr[k]?=some u→u.wr.mask.testBit p=true→listed.getD k false=true)→LikeM P (stD (fun j=>decide (j<i)) 0 tr s) (stD (fun j=>decide (j<i+m)) 0 tr s) p:=fun m=>by
        induction m with
        |zero=>intro _;exact .refl _ _
        |succ m ihm=>
          intro hall;refine(ihm (fun k u hk=>hall k u (by omega))).trans ?_
          by_cases hw:∃u,tr[i+m]?=some u∧u.wr.mask.testBit p=true
          · obtain⟨u,hu1,hu2⟩:=hw;have hD:=hall (i+m) u (by omega) hu1 hu2;have hm:i<i+m:=by
              rcases Nat.eq_zero_or_pos m with rfl|h
              · rw[Nat.add_zero,hDi]at hD;cases hD
              omega
            obtain⟨⟨ok,ho1,ho2⟩,hp3⟩:=w2 (i+m) u hm hu1 hu2 hD;have hg2:=htr.good (i:=0) (i+m) ok u (hgI (by rw[←hlen];exact(List.getElem?_eq_some_iff.1 hu1).1) ho1) hu1;rw[Nat.zero_add]at hg2;refine(AA6 ho2 hg2 hp3).trans (.inl ?_);refine(TD (stD (fun j=>decide (j<i+m)) 0 tr s) (D:=fun j=>decide (j<i+(m+1))) (i:=0) (s:=s) hu1 (by simp) hu2 (fun j v hj hv hvp=>?_)).symm;simp;omega
          refine .inl (LU rfl (fun k u hk hu=>?_));rw[Nat.zero_add];have:k≠i+m:=fun e=>hw ⟨u,e▸hk,hu⟩
          by_cases hkl:k<i+m
          · simp[hkl,show k<i+(m+1) by omega]
          simp[hkl,show¬k<i+(m+1) by omega]
      have last:∃m,(∀k u,k<i+m→tr[k]?=some u→u.wr.mask.testBit p=true→listed.getD k false=true)∧(∀k u,¬k<i+m→tr[k]?=some u→u.wr.mask.testBit p=true→listed.getD k false=false):=by
        have go:∀b,(∀k u,i+b≤k→tr[k]?=some u→u.wr.mask.testBit p=true→listed.getD k false=false)→∃m,(∀k u,k<i+m→tr[k]?=some u→u.wr.mask.testBit p=true→listed.getD k false=true)∧(∀k u,¬k<i+m→tr[k]?=some u→u.wr.mask.testBit p=true→listed.getD k false=false):=fun b=>by
          induction b with
          |zero=>intro hb;exact⟨0,fun k u hk=>w1 k u (by omega),fun k u hk=>hb k u (by omega)⟩
          |succ b ihb=>
            intro hb
            by_cases hw:∃u,tr[i+b]?=some u∧u.wr.mask.testBit p=true∧listed.getD (i+b) false=true
            · obtain⟨u,hu1,hu2,hu3⟩:=hw;refine⟨b+1,fun k v hk hv hvp=>?_,fun k v hk=>hb k v (by omega)⟩
              rcases Nat.lt_or_ge k (i+b)with h|h
              · exact w3 k (i+b) v u h hv hu1 hvp hu2 hu3
              have:k=i+b:=by omega
              subst this;exact hu3
            refine ihb (fun k u hk hu hup=>?_)
            rcases Nat.lt_or_ge (i+b) k with h|h
            · exact hb k u (by omega) hu hup
            have:k=i+b:=by omega
            subst this;cases hD:listed.getD (i+b) false
            · rfl
            exact(hw ⟨u,hu,hup,hD⟩).elim
        refine go tr.length (fun k u hk hu=>?_);have:=(List.getElem?_eq_some_iff.1 hu).1;omega
      obtain⟨m,hm1,hm2⟩:=last;refine(step m hm1).trans (.inl (LU rfl (fun k u hk hu=>?_)));rw[Nat.zero_add]
      by_cases hkl:k<i+m
      · rw[hm1 k u hkl hk hu];simp[hkl]
      rw[hm2 k u hkl hk hu];simp[hkl]
    have hset:∀j,(listed.setIfInBounds i true).getD j false=(listed.getD j false||decide (j=i)):=fun j=>by
      by_cases hji:j=i
      · subst hji;rw[Array.getD_eq_getD_getElem?,Array.getElem?_setIfInBounds];simp[hsz,hisz]
      rw[getD_set_ne _ (fun e=>hji e.symm)];simp[hji]
    have hsame:Same ((stD (fun i=>listed.getD i false) 0 tr s).apply t.wr) (stD (fun j=>(listed.setIfInBounds i true).getD j false) 0 tr s):=fun p=>by
      by_cases hp:t.wr.mask.testBit p=true
      · rw[TD (stD (fun i=>listed.getD i false) 0 tr s) (D:=fun j=>(listed.setIfInBounds i true).getD j false) (i:=0) (s:=s) ht (by rw[Nat.zero_add,hset];simp) hp (fun j u hj hu hup=>by
          rw[Nat.zero_add,hset]
          rcases Nb i j t u hj ht hu with h|⟨h,_⟩
          · cases hD:listed.getD j false
            · simp;omega
            have:=hcl j i hD h;rw[hDi]at this;cases this
          exact(Rd h hp (by rw[Nat.testBit_or,hup,Bool.or_true])).elim)]
      rw[MJ hp];refine LU rfl (fun k u hk hu=>?_);rw[Nat.zero_add,hset];have:k≠i:=fun e=>by subst e;rw[ht]at hk;cases hk;exact hp hu
      simp[this]
    obtain⟨β1,σ1,hpost⟩:=inv.post;have hdst:∀d,o.dst=some d→d∉XZ (fun i=>listed.getD i false) 0 ops.toList∧d<nt:=fun d hd=>by
      refine⟨fun hm=>?_,hdn d (H3 hoL hd)⟩;obtain⟨k,o',h2,h3,h4⟩:=Lg.1 hm;have:=hP hnd hoL h2 hd h4;subst this;rw[Nat.zero_add,hDi]at h3;cases h3
    have hgdone:∀j want d,o.guard=some (j,want)→(ops[j]?).bind (·.dst)=some d→d∈XZ (fun i=>listed.getD i false) 0 ops.toList:=fun j want d h2 h3=>by
      have hb:((B3 ops.toList []).getD i 0).testBit j=true:=by
        have:∀(l:List Oper) (bs:List Nat) (q k:Nat),GM ops.toList q bs l=true→l[k]?=some o→(bs.getD k 0).testBit j=true:=fun l=>by
          induction l with
          |nil=>intro bs q k _ h;simp at h
          |cons x l ih=>
            intro bs q k hg hk;cases bs with
            |nil=>simp[GM]at hg
            |cons b bs=>
              simp only[GM]at hg;cases k with
              |zero=>
                simp at hk;subst hk;rw[h2]at hg;simp only[zzk]at hg;exact hg.1.1.2
              |succ k=>
                have hg2:GM ops.toList (q+1) bs l=true:=by
                  split at hg
                  · exact hg
                  simp only[zzk]at hg;exact hg.2
                exact ih bs (q+1) k hg2 (by simpa using hk)
        exact this _ _ 0 i hgd hoL
      obtain⟨x,hx,hxd⟩:=Option.bind_eq_some_iff.1 h3;exact Lg.2 ⟨j,x,by rw[Array.getElem?_toList];exact hx,by rw[Nat.zero_add];exact hbef j hb,hxd⟩
    obtain⟨ids1,ids2⟩:=htr.ids;have hid:∀n,t.id≤n→n<t.id+Bn P o→Fresh a' (stD (fun i=>listed.getD i false) 0 tr s) n:=fun n hn1 hn2=>inv.fresh n (Nat.le_trans (ids1 i t ht) hn1) (fun k o' u hk ho' hu hc=>by
      rcases Nat.lt_trichotomy k i with hlt|rfl|hgt
      · have:=ids2 k i o' u t hlt (hgI (by omega) ho') hu ht;omega
      · rw[hDi]at hk;cases hk
      have:=ids2 i k o t u hgt hoI ht hu;omega)
    have next:∀a2 w2,After P n0 nt (fun n=>t.id≤n∧n<t.id+Bn P o) β1 σ1 (stD (fun i=>listed.getD i false) 0 tr s) a' w' o.dst t.wr a2 w2→GI ((stD (fun i=>listed.getD i false) 0 tr s).apply t.wr) (o.dst.toList++XZ (fun i=>listed.getD i false) 0 ops.toList) →
        wpAny P .any ops Q fuel (listed.setIfInBounds i true) a2 w2:=fun a2 w2 haf hgi=>by
      refine ih _ a2 w2 (by simp[hsz]) ?_ (fun x y hx hy=>?_) (fun x hx=>?_) ⟨?_,?_,fun n hn hno=>?_⟩
      · have hlt:((List.range ops.size).filter fun j => !(listed.setIfInBounds i true).getD j false).length<((List.range ops.size).filter fun j => !listed.getD j false).length:=by
          refine qJ (i:=i) (by simp only[hDi];rfl) (by rw[hset];simp) (fun x hx=>?_) _ (List.mem_range.2 hisz);rw[hset]at hx;cases hlx:listed.getD x false
          · rfl
          rw[hlx]at hx;simp at hx
        omega
      · rw[hset]at hx⊢
        by_cases hxi:x=i
        · subst hxi;rw[hbef y hy];rfl
        have hx':listed.getD x false=true:=by simpa[hxi]using hx
        rw[hcl x y hx' hy];rfl
      · rw[hset,hun x hx];simp;omega
      · obtain⟨β2,σ2,r1,r2,r3,r4,r5,r6,r7⟩:=haf;have p2:Post P n0 nt L (fun n=>n∈Ar ops.toList) β1 σ1 (stD (fun i=>listed.getD i false) 0 tr s) a' w' β2 σ2 ((stD (fun i=>listed.getD i false) 0 tr s).apply t.wr) a2 w2:=
          ⟨r1,r2.weaken (fun n hn=>Nat.le_trans (ids1 i t ht) hn.1),r4,r5,r6,fun n hn=>r7 n (fun e=>hn (H3 hoL e))⟩
        have p3:=(hpost.trans p2 (Nat.le_refl _)).same hsame;exact⟨β2,σ2,⟨p3.sim,p3.ext,p3.cleanB,p3.cleanH,p3.defers,fun n hn=>p3.tmps n (fun h=>hn (h.elim (fun h=>h) (fun h=>h)))⟩⟩
      · refine(hgi.same hsame).mono (fun d hd=>?_)
        rcases List.mem_append.1 hd with h|h
        · exact Lg.2 ⟨i,o,hoL,by rw[Nat.zero_add,hset];simp,by simpa using h⟩
        obtain⟨k,o',q1,q2,q3⟩:=Lg.1 h;exact Lg.2 ⟨k,o',q1,by rw[Nat.zero_add]at q2⊢;rw[hset];simp[q2],q3⟩
      obtain⟨β2,σ2,r1,r2,r3,r4⟩:=haf;refine(r3 n (inv.fresh n hn (fun k o' u hk=>hno k o' u (by rw[hset,hk];rfl))) (fun hc=>?_)).same hsame;exact hno i o t (by rw[hset];simp) hoL ht hc
    rcases hgood2 with⟨as,hrun,has⟩|⟨g,f,fns,ls,dm,nx,c,hrun,hc,hn⟩
    · exact cm hpost.sim inv.gi hgdone hdst hid ho hrun has next
    exact gw hΓ hpost.sim inv.gi hgdone hdst hid ho hrun (c:=c) (by
      cases g with
      |none=>exact hc
      |some b=>exact hc) hn next
end
section
variable {E:Env} {N:Nat} {P:Program} {cfg:Cfg} {n0 n0':Nz} {nt:Nat} {β β':Nat→Option Nat} {σ σ':Nat→Option (Nat×Nat)} {s s' s2:St0 E N} {a:Act} {w w':World}
theorem Sim.grow(hs:Sim P n0 nt β σ s a w)(g:Grow w w'):Sim P n0 nt β σ s a w':=by
 have x:=g.ext P n0 (fun _=>False) β σ s;refine⟨Nat.le_trans hs.n0le g.size,hs.size,fun n tv hn=>?_,hs.M.grow g,hs.kept.ext x⟩
 rcases hs.T n tv hn with⟨h1,h2⟩|h1
 ·exact .inl ⟨h1,x.relAV (fun _ _ h=>h) h2⟩
 exact .inr h1
theorem vk{D:Nat→Bool}(h:∀i,D i=false):∀(tr:List (Rc E N)) (i:Nat) (s:St0 E N),stD D i tr s=s
 | [],i,s=>rfl
 |t::tr,i,s=>by
  simp only[stD,h i];exact vk h tr _ _
theorem tT{ops:List Oper}(h:da ops=true):(∃o,ops.drop (ops.length-1)=[o])∧∀j,j<ops.length-1→((B3 ops []).getD (ops.length-1) 0).testBit j=true:=by
 unfold da at h
 split at h
 ·rename_i o ho;simp only[zzk]at h;refine⟨⟨o,ho⟩,fun j hj=>?_⟩;have h1:=AE.1 h.2;have h2:(C3 (ops.length-1)-1).testBit j=true:=by
   unfold C3
   simp_all
  grind
 cases h
theorem wm(hmix:P.follows .mixedOrders=true)(inl:Inl E N)(hInl:lg P inl)(hΓ:GamOK P E N cfg){ops:Array Oper}{rid:Nat}(hdn:M8 nt ops.toList=true){Q:Exit→Act→World→Prop}{r:List PV}
    {k:St0 E N→Option (List PV)} (h:Le (O:=std E N) P cfg inl ops.toList true s k=some r) (hs:Sim P n0 nt β σ s a w) (wf:WF s)
    (hQ:∀(s':St0 E N) (β':Nat→Option Nat) (σ':Nat→Option (Nat×Nat)) (a':Act) (w':World),k s'=some r→Post P n0 nt s.st (fun n=>n∈Ar ops.toList) β σ s a w β' σ' s' a' w'→WF s'→s.st≤s'.st→Q .normal a' w') :
    (Code.region rid ops true).wp P Q a w:=by
  unfold Le at h
  split at h
  · cases h
  rename_i hok;simp only[zzk]at hok;have g:Grow w { w with drawn:=w.drawn+1 }:=⟨rfl,rfl,rfl,Nat.le_refl _,fun _ _=>rfl⟩;have hs0:=hs.grow g;have hD0:∀i,(Array.replicate ops.size false).getD i false=false:=fun i=>by
    rw[Array.getD_eq_getD_getElem?]
    grind
  have core:∀{init tail:List Oper} {tr:List (Rc E N)} {id':Nat},ops.toList=init++tail→TrOK P cfg ops.toList init s.st s tr→s.st≤id'→(∀(i:Nat) (o:Oper) (t:Rc E N),init[i]?=some o→tr[i]?=some t→t.id+Bn P o≤id') →
      ∀(D:Nat→Bool) (a':Act) (w':World),(∀i,i<init.length→D i=true)→Inv P n0 nt s.st ops.toList tr β σ s a { w with drawn:=w.drawn+1 } D a' w' →
        (∃β' σ',Post P n0 nt s.st (fun n=>n∈Ar ops.toList) β σ s a w β' σ' (stD (fun _=>true) 0 tr s) a' w')∧∀n,id'≤n→Fresh a' (stD (fun _=>true) 0 tr s) n:=fun{init tail tr id'} hsp htr hid hids D a' w' hall inv=>by
    obtain⟨β',σ',hp⟩:=inv.post;have hsame:Same (stD D 0 tr s) (stD (fun _=>true) 0 tr s):=fun p=>LU rfl (fun k t hk _=>by
      rw[Nat.zero_add];refine hall k ?_;have:=(List.getElem?_eq_some_iff.1 hk).1;rw[htr.len]at this;exact this)
    have hp1:=hp.same hsame;refine⟨⟨β',σ',hp1.sim,((g.ext P n0 (fun _=>False) β σ s).trans hp1.ext).weaken (fun n h=>h.elim (fun h=>h.elim) (fun h=>h)),hp1.cleanB,hp1.cleanH,hp1.defers,hp1.tmps⟩,fun n hn=>?_⟩;exact(inv.fresh n (Nat.le_trans hid hn) (fun i o t _ ho ht hc=>by
      have hi:i<init.length:=by rw[←htr.len];grind
      grind)).same hsame
  have giD:∀{init tail:List Oper} {tr:List (Rc E N)},ops.toList=init++tail→TrOK P cfg ops.toList init s.st s tr→∀(D:Nat→Bool) (a':Act) (w':World),(∀i,i<init.length→D i=true)→(∀i,init.length≤i→D i=false)→Inv P n0 nt s.st ops.toList tr β σ s a { w with drawn:=w.drawn+1 } D a' w'→GI (stD (fun _=>true) 0 tr s) (Ar init):=fun{init tail tr} hsp htr D a' w' hall hun inv=>by
    have hsame:Same (stD D 0 tr s) (stD (fun _=>true) 0 tr s):=fun p=>LU rfl (fun k t hk _=>by
      rw[Nat.zero_add];refine hall k ?_;have:=(List.getElem?_eq_some_iff.1 hk).1;rw[htr.len]at this;exact this)
    refine(inv.gi.same hsame).mono (fun d hd=>?_);obtain⟨i,o,h1,h2,h3⟩:=Lg.1 hd;rw[Nat.zero_add]at h2
    rcases Nat.lt_or_ge i init.length with hi|hi
    · rw[hsp,List.getElem?_append_left hi]at h1;exact H3 h1 h3
    simp_all
  have start:∀(tr:List (Rc E N)),Inv P n0 nt s.st ops.toList tr β σ s a { w with drawn:=w.drawn+1 } (fun i=>(Array.replicate ops.size false).getD i false) a { w with drawn:=w.drawn+1 }:=fun tr=>by
    have e:=vk (fun i=>hD0 i) tr 0 s;refine⟨⟨β,σ,?_⟩,?_,fun n hn _=>?_⟩
    · rw[e];exact⟨hs0,Ext.refl _ _ _ _ _ _ _,fun n e h _=>h,fun n e h _=>h,rfl,fun _ _=>rfl⟩
    · rw[e];exact wf.gi.mono (fun x hx=>by simp at hx)
    rw[e];exact wf.free a n hn
  have small:((List.range ops.size).filter fun i => !(Array.replicate ops.size false).getD i false).length≤ops.size:=by
    grind
  split at h
  ·
    rename_i hla;simp only[Bool.true_and]at hla;obtain⟨hlast,hbl⟩:=tT hla;have hsp:ops.toList=ops.toList.take (ops.toList.length-1)++ops.toList.drop (ops.toList.length-1):=(List.take_append_drop _ _).symm;obtain⟨ol,hol⟩:=hlast;have hlen1:(ops.toList.take (ops.toList.length-1)).length=ops.toList.length-1:=by grind
    obtain⟨tr,id',htr,h2,hid,hids⟩:=eR inl _ _ _ _ _ h;simp only[List.nil_append]at h2
    split at h2
    · cases h2
    rename_i hap;have hg:=cy hok.2.1;refine wp_region_any hmix ?_;refine qK (n0:=n0) (L:=s.st) (β:=β) (σ:=σ) (a:=a) (w:={ w with drawn:=w.drawn+1 }) (nt:=nt) hΓ (Pc hok.1) hok.2.1 hok.2.2 (OT hdn) hsp (.inr ⟨⟨ol,hol⟩,fun j hj=>by grind⟩) htr hap (fun D a' w' hall hun inv=>?_) ops.size _ a _ (by simp) small (fun i j hi=>?_) (fun i hi=>hD0 i) (start tr)
    · obtain⟨⟨β',σ',hp2⟩,hf⟩:=core hsp htr hid hids D a' w' hall inv;have gi:=giD hsp htr D a' w' hall hun inv;have same:Same (stD (fun _=>true) 0 tr s) ({ stD (fun _=>true) 0 tr s with st:=id' }:St0 E N):=Same.of (fun _=>rfl) (fun _=>rfl) (fun _=>rfl);have hp3:=hp2.same same;refine Ty inl hInl hΓ (Pc hok.1) (fun k o ho j want hgd=>by grind) (OT hdn) _ _ id' ({ stD (fun _=>true) 0 tr s with st:=id' }:St0 E N) [] _ β' σ' a' w' hsp h2 hp3.sim (gi.same same) (fun n hn=>(hf n hn).same same) (fun s' ms' id2 β2 σ2 a2 w2 hk hp hle hf2 hgi=>?_);have wf':WF ({ s' with tm:=Fp s'.tm,st:=id2 }:St0 E N):=⟨fun n hn=>⟨⟨(hf2 n hn).b,(hf2 n hn).h⟩,fun k tv hk=>by
        obtain⟨h1,h2⟩:=Hv hk;exact(hf2 n hn).t k tv h1 (fun m b hm=>by grind)⟩,fun n tv hn=>(Hv hn).2⟩
      have sub:Sub s' ({ s' with tm:=Fp s'.tm,st:=id2 }:St0 E N):=Sub.of_same (fun _=>rfl) (fun _=>rfl);have hpt:=hp3.trans hp hid;refine hQ _ β2 σ2 a2 w2 hk ⟨hpt.sim.purged id2,(hpt.ext.trans (sub.ext P n0 (fun _=>False) β2 σ2 w2)).weaken (fun n h=>h.elim (fun h=>h) (fun h=>h.elim)),hpt.cleanB,hpt.cleanH,hpt.defers,fun n hn=>hpt.tmps n (fun h=>hn ?_)⟩ wf' (Nat.le_trans hid hle)
      rcases h with h|h
      · exact h
      rw[hsp,MT];grind
    grind
  rename_i hla;obtain⟨tr,id',htr,h2,hid,hids⟩:=eR inl _ _ _ _ _ h;simp only[Bool.not_true,Bool.false_or,List.nil_append]at h2
  split at h2
  · cases h2
  rename_i hap;refine wp_region_any hmix ?_;refine qK (n0:=n0) (L:=s.st) (β:=β) (σ:=σ) (a:=a) (w:={ w with drawn:=w.drawn+1 }) (nt:=nt) (tail:=[]) hΓ (Pc hok.1) hok.2.1 hok.2.2 (OT hdn) (List.append_nil _).symm (.inl rfl) htr hap (fun D a' w' hall hun inv=>?_) ops.size _ a _ (by simp) small (fun i j hi=>?_) (fun i hi=>hD0 i) (start tr)
  · obtain⟨⟨β',σ',hp2⟩,hf⟩:=core (List.append_nil _).symm htr hid hids D a' w' hall inv;have wf':WF ({ stD (fun _=>true) 0 tr s with tm:=Fp (stD (fun _=>true) 0 tr s).tm,st:=id' }:St0 E N):=⟨fun n hn=>⟨⟨(hf n hn).b,(hf n hn).h⟩,fun k tv hk=>by
      obtain⟨h1,h2⟩:=Hv hk;exact(hf n hn).t k tv h1 (fun m b hm=>by simp_all)⟩,fun n tv hn=>(Hv hn).2⟩
    have sub:Sub (stD (fun _=>true) 0 tr s) ({ stD (fun _=>true) 0 tr s with tm:=Fp (stD (fun _=>true) 0 tr s).tm,st:=id' }:St0 E N):=Sub.of_same (fun _=>rfl) (fun _=>rfl);exact hQ _ β' σ' a' w' h2 ⟨hp2.sim.purged id',(hp2.ext.trans (sub.ext P n0 (fun _=>False) β' σ' w')).weaken (fun n h=>h.elim (fun h=>h) (fun h=>h.elim)),hp2.cleanB,hp2.cleanH,hp2.defers,hp2.tmps⟩ wf' hid
  simp_all
end
section
variable {E:Env} {N:Nat} {P:Program} {cfg:Cfg} {n0 n0':Nz} {nt:Nat} {β β':Nat→Option Nat} {σ σ':Nat→Option (Nat×Nat)} {s s' s2:St0 E N} {a:Act} {w w':World}
structure Enc(s:St0 E N)(keep used used':List Nat)(os:List (Option Nat))(fr:List (Nat×Option (HEnt (std E N)))):Prop where
 up:∀n∈used,n∈used'
 src:∀n,some n∈os→n∉used∧n∈used'∧n∉keep∧∃h,s.getH n=some h∧h.frozen=false
 nd:(os.filterMap id).Nodup
 ok:FrOK s fr
 fz:∀y∈fr,∃h,s.getH y.1=some h∧(h.frozen=true∨(y.1∉used∧y.1∈used'∧y.1∉keep))
 ap:∀y∈fr,some y.1∉os
theorem Enc.nil{keep used:List Nat}:Enc s keep used used [] []:=
 ⟨fun _ h=>h,fun _ h=>by simp at h,List.nodup_nil,fun _ _ h=>by simp at h,fun _ h=>by simp at h,fun _ h=>by simp at h⟩
theorem Enc.append{keep used u u':List Nat}{os os':List (Option Nat)}{fr fr':List (Nat×Option (HEnt (std E N)))}(h:Enc s keep used u os fr)(k:Enc s keep u u' os' fr') :
    Enc s keep used u' (os++os') (fr++fr') where
  up n hn:=k.up n (h.up n hn)
  src n hn:=by
    rcases List.mem_append.1 hn with hn|hn
    · obtain⟨a1,a2,a3⟩:=h.src n hn;exact⟨a1,k.up n a2,a3⟩
    obtain⟨a1,a2,a3⟩:=k.src n hn;exact⟨fun hm=>a1 (h.up n hm),a2,a3⟩
  nd:=by
    rw[List.filterMap_append];refine List.nodup_append.2 ⟨h.nd,k.nd,fun x hx y hy e=>?_⟩;subst e;have h1:some x∈os:=by simp_all
    have h2:some x∈os':=by simp_all
    exact(k.src x h2).1 (h.src x h1).2.1
  ok:=h.ok.append k.ok
  fz y hy:=by
    rcases List.mem_append.1 hy with hy|hy
    · obtain⟨e,a1,a2⟩:=h.fz y hy;exact⟨e,a1,a2.imp (fun h=>h) (fun h=>⟨h.1,k.up _ h.2.1,h.2.2⟩)⟩
    obtain⟨e,a1,a2⟩:=k.fz y hy;exact⟨e,a1,a2.imp (fun h=>h) (fun g=>⟨fun hm=>g.1 (h.up _ hm),g.2⟩)⟩
  ap y hy hm:=by
    rcases List.mem_append.1 hy with hy|hy<;>rcases List.mem_append.1 hm with hm|hm
    · exact h.ap y hy hm
    · obtain⟨e,a1,a2⟩:=h.fz y hy;obtain⟨b1,b2,b3,e',b4,b5⟩:=k.src _ hm
      simp_all
    · obtain⟨e,a1,a2⟩:=k.fz y hy;obtain⟨b1,b2,b3,e',b4,b5⟩:=h.src _ hm
      simp_all
    exact k.ap y hy hm
def Holds(cv:List PV)(j:Nat)(ls:List AW):Prop:=∀(i:Nat) (l:AW),ls[i]?=some l→AA cv (j+i)=l.pv
theorem Holds.left{cv:List PV}{j:Nat}{a b:List AW}(h:Holds cv j (a++b)):Holds cv j a:=fun i l hl=>h i l (by
 grind)
theorem Holds.right{cv:List PV}{j:Nat}{a b:List AW}(h:Holds cv j (a++b)):Holds cv (j+a.length) b:=fun i l hl=>by
 have:=h (a.length+i) l (by grind)
 grind
abbrev Dc(E:Env)(N:Nat)(cv:List PV)(j q:Nat)(sc:SlotC):AC0 E N×List (Nat×HEnt (std E N)):=VF (O:=std E N) cv j q sc
abbrev AR(E:Env)(N:Nat)(cv:List PV)(j q:Nat)(scs:List SlotC):List (AC0 E N)×List (Nat×HEnt (std E N)):=MB (O:=std E N) cv j q scs
theorem iE(m:Mem P n0 β σ s w){c:AC0 E N}{v:Value}{t:TypeId}{r:Rows}{fr:List (Nat×Option (HEnt (std E N)))}{nw nw':Bool}(hc:RelC P n0 β σ s w c v)(ht:Bj (AL P t) c=true)
    {k':Nat} (h:RM.run s (tj (O:=std E N) c) 0=.ok ((.rows r,fr,nw),k')) (hn:nw'=true→nw=true) {sf:St0 E N} (hsub:Sub s sf) (hf:Frz sf fr):Rep P w (StB n0 β σ sf nw') t v (.rows r):=by
  obtain⟨_,_,h3⟩:=fQ m hc h;exact h3 t sf ht hsub (fun x hx h hh=>by obtain⟨h',e1,e2⟩:=hf x hx;simp_all) (fun x hx=>by obtain⟨h',e1,_⟩:=hf x hx;simp_all) nw' hn
theorem AA7(m:Mem P n0 β σ s w){keep used u:List Nat}{sc:SlotC}{c:AC0 E N}{l:AW}(h:JU (O:=std E N) s keep used sc c=.ok (l,u)){v:Value}(hc:RelC P n0 β σ s w c v)
    {cv:List PV} {j:Nat} (hl:AA cv j=l.pv) (q:Nat) :
    ∃(os:List (Option Nat)) (fr:List (Nat×Option (HEnt (std E N)))),Enc s keep used u os fr∧Ents P s q os (Dc E N cv j q sc).2∧(∀p∈(Dc E N cv j q sc).2,p.2.dirty=true) ∧
      (∀n∈(Dc E N cv j q sc).1.names,q≤n∧n<q+(Dc E N cv j q sc).2.length) ∧
      ∀(sf:St0 E N),Sub s sf→Frz sf fr→∀(σ2:Nat→Option (Nat×Nat)) (S:St0 E N),(∀nw b,StB n0 β σ sf nw b→StB n0 β σ2 S nw b)→Wired σ σ2 S q os (Dc E N cv j q sc).2→RelC P n0 β σ2 S w (Dc E N cv j q sc).1 v:=by
  cases sc with
  |int k=>
    cases c<;>simp only[JU]at h<;>try cases h
    rename_i k' i
    split at h<;>cases h
    rename_i hk;have:=JV.1 hk;subst this;refine⟨[],[],Enc.nil,trivial,fun p hp=>by trivial,fun n hn=>by trivial,fun sf _ _ σ2 S _ _=>?_⟩;have hv:v=.int k i:=hc;show v=.int k (pvI (AA cv j));rw[hl];exact hv
  |bool=>
    cases c<;>simp only[JU]at h<;>try cases h
    rename_i b;refine⟨[],[],Enc.nil,trivial,fun p hp=>by trivial,fun n hn=>by trivial,fun sf _ _ σ2 S _ _=>?_⟩;have hv:v=.bool b:=hc;show v=.bool (pvB (AA cv j));rw[hl];exact hv
  |str=>
    cases c<;>simp only[JU]at h<;>try cases h
    rename_i b;refine⟨[],[],Enc.nil,trivial,fun p hp=>by trivial,fun n hn=>by trivial,fun sf _ _ σ2 S _ _=>?_⟩;have hv:v=.string b:=hc;show v=.string (pvS (AA cv j));rw[hl];exact hv
  |any T=>
    cases c<;>simp only[JU]at h<;>try cases h
    split at h<;>cases h
    exact⟨[],[],Enc.nil,trivial,fun p hp=>by trivial,fun n hn=>by trivial,fun sf _ _ σ2 S _ _=>hc⟩
  |opq nw=>
    cases c<;>simp only[JU]at h<;>try cases h
    rename_i nw' n
    split at h<;>cases h
    rename_i hg;refine⟨[],[],Enc.nil,trivial,fun p hp=>by trivial,fun n hn=>by trivial,fun sf hsub _ σ2 S hst _=>?_⟩;obtain⟨t,ht,hr⟩:=hc;refine⟨t,ht,?_⟩;show Rep P w _ t v (.int (pvI (AA cv j)));rw[hl];exact hr.st (fun b hb=>hst nw b ⟨fun hm=>hb.1 (hsub.inM hm),hb.2.mono (fun e=>by simp_all)⟩)
  |own e nw=>
    have one:∀n∈(Dc E N cv j q (.own e nw)).1.names,q≤n∧n<q+(Dc E N cv j q (.own e nw)).2.length:=fun n hn=>by
      simp[Dc,VF,AC.names]at hn;subst hn;simp[Dc,VF]
    have dt:∀p∈(Dc E N cv j q (.own e nw)).2,p.2.dirty=true:=fun p hp=>by simp[Dc,VF]at hp;grind
    cases c<;>simp only[JU]at h<;>try cases h
    · rename_i e'
      split at h<;>cases h
      rename_i he;have:=AE.1 he;subst this;obtain⟨t0,ts0,ht0,hts0,av,hv⟩:=hc;have hl':pvL (AA cv j)=[]:=by rw[hl];rfl
      refine⟨[none],[],⟨fun _ h=>h,fun n hn=>by simp at hn,List.nodup_nil,fun _ _ h=>by simp at h,fun _ h=>by simp at h,fun _ h=>by simp at h⟩,⟨rfl,rfl,⟨hl',t0,ts0,ht0,hts0⟩,trivial⟩,dt,one,fun sf _ _ σ2 S _ hw=>⟨⟨t0,ht0,_,_,_,hv⟩,fun h3 hh3=>?_⟩⟩;rw[hw.2.1]at hh3;cases hh3;exact⟨rfl,.inr ⟨hw.1,by simp_all,av,hv⟩⟩
    rename_i e' id;cases hh:s.getH id with
    |none=>simp_all
    |some en=>
      rw[hh]at h;simp only at h
      split at h<;>cases h
      rename_i hg;simp only[zzk,Bool.not_eq_true',Bool.or_eq_true]at hg;obtain⟨⟨⟨⟨⟨g1,g2⟩,g3⟩,g4⟩,g5⟩,g6⟩:=hg;have e1:=AE.1 g1;have e2:=AE.1 g2;subst e1;have nu:id∉used:=fun hm=>by rw[Dn.2 hm]at g5;cases g5
      have nk:id∉keep:=fun hm=>by rw[Dn.2 hm]at g6;cases g6
      have hl':pvL (AA cv j)=en.l:=by rw[hl];rfl
      refine⟨[some id],[],⟨fun _ h=>zzn _ h,fun n hn=>?_,by simp,fun _ _ h=>by simp at h,fun _ h=>by simp at h,fun _ h=>by simp at h⟩,⟨rfl,rfl,⟨en,hh,e2,hl',g3,fun h=>?_⟩,trivial⟩,dt,one,fun sf _ _ σ2 S _ hw=>?_⟩
      · simp_all
      · simp_all
      exact AAD (h':={ e:=e,frozen:=false,nw:=nw,l:=pvL (AA cv j),dirty:=true }) hc hh e2 hl' hw.1 hw.2.1
  |imm e nw=>
    have one:∀n∈(Dc E N cv j q (.imm e nw)).1.names,q≤n∧n<q+(Dc E N cv j q (.imm e nw)).2.length:=fun n hn=>by
      trivial
    have dt:∀p∈(Dc E N cv j q (.imm e nw)).2,p.2.dirty=true:=fun p hp=>by trivial
    cases c<;>simp only[JU]at h<;>try cases h
    · rename_i e'
      split at h<;>cases h
      rename_i he;have:=AE.1 he;subst this;have hl':pvL (AA cv j)=[]:=by rw[hl];rfl
      refine⟨[],[],Enc.nil,trivial,dt,one,fun sf hsub hf σ2 S hst _=>?_⟩;have hc0:=hc;obtain⟨t0,ts0,ht0,hts0,av,hv⟩:=hc0;refine⟨t0,ht0,?_⟩;show Rep P w _ t0 v (.rows (pvL (AA cv j)));rw[hl'];exact(iE m (nw':=nw) hc (t:=t0) (by rw[ht0];exact he) rfl (fun _=>rfl) hsub hf).st (hst nw)
    · rename_i e' nw' r
      split at h<;>cases h
      rename_i hg;simp only[zzk,Bool.not_eq_true',Bool.or_eq_true]at hg;have:=AE.1 hg.1;subst this;have hl':pvL (AA cv j)=r:=by rw[hl];rfl
      refine⟨[],[],Enc.nil,trivial,dt,one,fun sf hsub hf σ2 S hst _=>?_⟩;have hc0:=hc;obtain⟨t0,ht0,hv⟩:=hc0;refine⟨t0,ht0,?_⟩;show Rep P w _ t0 v (.rows (pvL (AA cv j)));rw[hl'];exact(iE m (nw':=nw) hc (t:=t0) (by rw[ht0];exact hg.1) rfl (fun h=>by
        simp_all) hsub hf).st (hst nw)
    rename_i e' id;cases hh:s.getH id with
    |none=>simp_all
    |some en=>
      rw[hh]at h;simp only at h
      split at h<;>cases h
      rename_i hg;simp only[zzk,Bool.not_eq_true',Bool.or_eq_true]at hg;obtain⟨⟨⟨⟨g1,g2⟩,g3⟩,g4⟩,g5⟩:=hg;have e1:=AE.1 g1;have e2:=AE.1 g2;subst e1;have nu:id∉used:=fun hm=>by rw[Dn.2 hm]at g5;cases g5
      have hl':pvL (AA cv j)=en.l:=by rw[hl];rfl
      refine⟨[],[(id,some { en with frozen:=true,dirty:=true })],⟨fun n hn=>?_,fun n hn=>by simp at hn,List.nodup_nil,fun n v hm=>?_,fun y hy=>?_,fun y hy=>by simp⟩,trivial,dt,one,fun sf hsub hf σ2 S hst _=>?_⟩
      · grind
      · simp_all
      · simp at hy;subst hy;refine⟨en,hh,?_⟩;cases hz:en.frozen
        · refine .inr ⟨nu,zzm,fun hm=>?_⟩;rw[hz,Dn.2 hm]at g4;simp at g4
        simp_all
      obtain⟨t0,hte,_⟩:=hc.1;have ht0:AL P t0=.sl en.e:=by simp_all
      refine⟨t0,by omega,?_⟩;show Rep P w _ t0 v (.rows (pvL (AA cv j)));rw[hl'];exact(iE m (nw':=nw) (nw:=en.nw) (fr:=[(id,some { en with frozen:=true,dirty:=true })]) hc (t:=t0) (by rw[ht0];exact AE.2 e2.symm) (by
        show RM.run s (RM.h id _) 0=_;simp only[RM.run];rw[hh];rfl) (fun h=>by
        simp_all) hsub hf).st (hst nw)
end
section
variable {E:Env} {N:Nat} {P:Program} {cfg:Cfg} {n0 n0':Nz} {nt:Nat} {β β':Nat→Option Nat} {σ σ':Nat→Option (Nat×Nat)} {s s' s2:St0 E N} {a:Act} {w w':World}
theorem Holds.head{cv:List PV}{j:Nat}{l:AW}{ls:List AW}(h:Holds cv j (l::ls)):AA cv j=l.pv:=h 0 l rfl
theorem Holds.tail{cv:List PV}{j:Nat}{l:AW}{ls:List AW}(h:Holds cv j (l::ls)):Holds cv (j+1) ls:=fun i x hx=>by
 have:=h (i+1) x (by simpa using hx);rw[show j+1+i=j+(i+1) by omega];exact this
theorem XW(m:Mem P n0 β σ s w){keep:List Nat}:∀{scs:List SlotC} {cs:List (AC0 E N)} {vals:List Value} {ls:List AW} {used u:List Nat},ID (O:=std E N) s keep used scs cs=.ok (ls,u)→RelCs P n0 β σ s w cs vals →
    ∀(cv:List PV) (j:Nat),Holds cv j ls→∀(q:Nat),ls.length=scs.length ∧
    ∃(os:List (Option Nat)) (fr:List (Nat×Option (HEnt (std E N)))),Enc s keep used u os fr∧Ents P s q os (AR E N cv j q scs).2∧(∀p∈(AR E N cv j q scs).2,p.2.dirty=true) ∧
      (∀n∈AJ (AR E N cv j q scs).1,q≤n∧n<q+(AR E N cv j q scs).2.length) ∧
      ∀(sf:St0 E N),Sub s sf→Frz sf fr→∀(σ2:Nat→Option (Nat×Nat)) (S:St0 E N),(∀nw b,StB n0 β σ sf nw b→StB n0 β σ2 S nw b)→Wired σ σ2 S q os (AR E N cv j q scs).2→RelCs P n0 β σ2 S w (AR E N cv j q scs).1 vals
  | [],[],[],ls,used,u,h,_=>by
    intro cv j _ q;simp only[ID]at h;cases h;exact⟨rfl,[],[],Enc.nil,trivial,fun p hp=>by simp[AR,MB]at hp,fun n hn=>by simp[AR,MB,AJ]at hn,fun _ _ _ _ _ _ _=>trivial⟩
  |sc::scs,c::cs,v::vals,ls,used,u,h,hc=>by
    intro cv j hh q;simp only[ID]at h
    split at h
    · cases h
    rename_i l u1 h1
    split at h
    · cases h
    rename_i ls2 u2 h2;cases h;obtain⟨os1,fr1,a1,a2,a3,a4,a5⟩:=AA7 m h1 hc.1 hh.head q;obtain⟨hlen,os2,fr2,b1,b2,b3,b4,b5⟩:=XW m h2 hc.2 _ _ hh.tail (q+(Dc E N cv j q sc).2.length);have e1:(AR E N cv j q (sc::scs)).1=(Dc E N cv j q sc).1::(AR E N cv (j+1) (q+(Dc E N cv j q sc).2.length) scs).1:=rfl;have e2:(AR E N cv j q (sc::scs)).2=(Dc E N cv j q sc).2++(AR E N cv (j+1) (q+(Dc E N cv j q sc).2.length) scs).2:=rfl;rw[e1,e2];refine⟨by simp[hlen],os1++os2,fr1++fr2,a1.append b1,a2.append b2,fun p hp=>?_,fun n hn=>?_,fun sf hs hf σ2 S hst hw=>⟨?_,?_⟩⟩
    · exact(List.mem_append.1 hp).elim (a3 p) (b3 p)
    · simp only[AJ,List.mem_append]at hn;rw[List.length_append]
      rcases hn with hn|hn
      · have:=a4 n hn;omega
      have:=b4 n hn;omega
    · exact a5 sf hs hf.left σ2 S hst (hw.left a2.len)
    exact b5 sf hs hf.right σ2 S hst (hw.right a2.len)
  | [],_::_,_,_,_,_,h,_=>by simp only[ID]at h;cases h
  |_::_,[],_,_,_,_,h,_=>by simp only[ID]at h;cases h
  |_,[],_::_,_,_,_,_,hc=>hc.elim
  |_,_::_,[],_,_,_,_,hc=>hc.elim
theorem ee{q:Nat}{r r':List (Nat×HEnt (std E N))}(h1:Row q r)(h2:Row (q+r.length) r')(n:Nat):AN (r++r') n=match AN r' n with
    |some a=>some a
    |none=>AN r n:=by
  rw[Ir];cases e1:AN r n with
  |none=>cases AN r' n<;>rfl
  |some x=>
    cases e2:AN r' n with
    |none=>rfl
    |some y=>
      have m1:=h1.mem _ (h1.get e1);have m2:=h2.mem _ (h2.get e2);simp at m1 m2;omega
theorem yK(cv:List PV)(j q n:Nat)(agg:Bool)(cs:List SlotC)(r:List Slot)(u:St0 E N):B1 (O:=std E N) cv j q (.t n agg cs::r) u =
    B1 cv (j+cs.length) (q+(AR E N cv j q cs).2.length) r { u with tm:=Gl u.tm n (some ⟨[],.val { agg,cs:=(AR E N cv j q cs).1 }⟩),hp:=(AR E N cv j q cs).2++u.hp }:=rfl
theorem Zf(cv:List PV)(j q n:Nat)(cs:List SlotC)(r:List Slot)(u:St0 E N):B1 (O:=std E N) cv j q (.b n cs::r) u =
    B1 cv (j+cs.length) (q+(AR E N cv j q cs).2.length) r { u with bx:=P4 u.bx n (some { cs:=(AR E N cv j q cs).1,dirty:=true }),hp:=(AR E N cv j q cs).2++u.hp }:=rfl
theorem AE1{keep used u:List Nat}{scs:List SlotC}{cs:List (AC0 E N)}{ls:List AW}(h:ID (O:=std E N) s keep used scs cs=.ok (ls,u)){blk:Nat}{cells:Array Value}{el:TypeId}(hb:BH blk cells el cs){cv:List PV}{j q:Nat} :
    BH blk cells el (AR E N cv j q scs).1:=by
  cases scs with
  |nil=>trivial
  |cons sc r=>cases cs with
    |nil=>simp[ID]at h
    |cons c r'=>cases sc with
      |any T=>
        cases c<;>simp only[ID,JU]at h<;>try cases h
        rename_i T';cases ht:Nat.beq T T'
        · rw[ht]at h;cases h
        have:=AE.1 ht;subst this;exact hb
      |_=>trivial
theorem fH(hs:Sim P n0 nt β σ s a w){keep:List Nat}:∀{sl:List Slot} {used:List Nat} {ls:List AW},JF (O:=std E N) s keep used sl=.ok ls →
    ∀(cv:List PV) (j:Nat),Holds cv j ls→∀(q:Nat) (u:St0 E N),∃(u':List Nat) (NH:List (Nat×HEnt (std E N))) (os:List (Option Nat)) (fr:List (Nat×Option (HEnt (std E N)))),Enc s keep used u' os fr∧Ents P s q os NH∧(∀p∈NH,p.2.dirty=true) ∧
      (B1 (O:=std E N) cv j q sl u).st=q+NH.length∧(∀n,(B1 (O:=std E N) cv j q sl u).getH n=match AN NH n with|some h=>some h|none=>u.getH n) ∧
      ∀(sf:St0 E N),Sub s sf→Frz sf fr→∀(σ2:Nat→Option (Nat×Nat)) (S:St0 E N),(∀nw b,StB n0 β σ sf nw b→StB n0 β σ2 S nw b)→Wired σ σ2 S q os NH →
        (∀n tv,(B1 (O:=std E N) cv j q sl u).getT n=some tv→u.getT n=some tv∨(tv.gs=[]∧RelAV P n0 β σ2 S w tv.v (a.tmps.getD n undef)∧∀k∈tv.v.names,k<q+NH.length)) ∧
        (∀n e,(B1 (O:=std E N) cv j q sl u).getB n=some e→u.getB n=some e∨(e.dirty=true∧(∃cs,Slot.b n cs∈sl)∧(∃e0,s.getB n=some e0)∧ABC P n0 β σ2 S w n e∧∀k∈AJ e.cs,k<q+NH.length))
  | [],used,ls,h=>by
    intro cv j _ q u;exact⟨used,[],[],[],Enc.nil,trivial,fun p hp=>by simp at hp,rfl,fun n=>rfl,fun _ _ _ _ _ _ _=>⟨fun n tv h=>.inl h,fun n e h=>.inl h⟩⟩
  | .t n agg scs::r,used,ls,h=>by
    intro cv j hh q u;simp only[JF]at h
    split at h
    case h_2=>cases h
    rename_i v ht
    split at h
    case h_2=>cases h
    case h_3=>cases h
    rename_i ls1 u1 hagg h1
    split at h
    case h_2=>cases h
    rename_i more h2;cases h;have hv:RelAV P n0 β σ s w (.val v) (a.tmps.getD n undef):=by
      rcases hs.T n _ ht with⟨_,h3⟩|⟨h3,_⟩
      · exact h3
      exact(h3 (fun n b hm=>by simp at hm)).elim
    have hv:RelVal P n0 β σ s w v (a.tmps.getD n undef):=hv;obtain⟨hlen,os1,fr1,a1,a2,a3,a4,a5⟩:=XW hs.M h1 hv.1 _ _ hh.left q;rw[yK];obtain⟨u',NH,os2,fr2,b1,b2,b3,b4,b5,b6⟩:=fH hs h2 cv (j+scs.length) (by rw[←hlen];exact hh.right) (q+(AR E N cv j q scs).2.length)
      { u with tm:=Gl u.tm n (some ⟨[],.val { agg,cs:=(AR E N cv j q scs).1 }⟩),hp:=(AR E N cv j q scs).2++u.hp }
    refine⟨u',(AR E N cv j q scs).2++NH,os1++os2,fr1++fr2,a1.append b1,a2.append b2,fun p hp=>(List.mem_append.1 hp).elim (a3 p) (b3 p),by rw[b4,List.length_append,Nat.add_assoc],fun k=>?_,fun sf hsub hf σ2 S hst hw=>?_⟩
    · rw[b5,ee a2.row b2.row];cases AN NH k with
      |some x=>rfl
      |none=>
        show AN ((AR E N cv j q scs).2++u.hp) k=_;rw[Ir];cases AN (AR E N cv j q scs).2 k<;>rfl
    obtain⟨c1,c2⟩:=b6 sf hsub hf.right σ2 S hst (hw.right a2.len);refine⟨fun k tv hk=>?_,fun k e hk=>?_⟩
    · rcases c1 k tv hk with h3|⟨h3,h4,h5⟩
      · have h3:Dh (Gl u.tm n (some ⟨[],.val { agg,cs:=(AR E N cv j q scs).1 }⟩)) k=some tv:=h3;rw[Es]at h3
        split at h3
        · rename_i hkn;cases h3;refine .inr ⟨rfl,?_,fun x hx=>?_⟩
          · rw[hkn.1];refine⟨a5 sf hsub hf.left σ2 S hst (hw.left a2.len),?_⟩;have hag:v.agg=agg:=by simpa using hagg
            have:=hv.2;rw[hag]at this;exact this
          have:=a4 x hx;rw[List.length_append];omega
        exact .inl h3
      exact .inr ⟨h3,h4,fun x hx=>by have:=h5 x hx;rw[List.length_append];omega⟩
    rcases c2 k e hk with h3|⟨h3,⟨cs,h4⟩,h5,h6,h7⟩
    · exact .inl h3
    exact .inr ⟨h3,⟨cs,zzn _ h4⟩,h5,h6,fun x hx=>by have:=h7 x hx;rw[List.length_append];omega⟩
  | .b n scs::r,used,ls,h=>by
    intro cv j hh q u;simp only[JF]at h
    split at h
    case h_2=>cases h
    rename_i e0 he0
    split at h
    case h_2=>cases h
    rename_i ls1 u1 h1
    split at h
    case h_2=>cases h
    rename_i more h2;cases h;obtain⟨blk,cells,el,hβ,hheap,hrel,hbh⟩:=hs.M.B n e0 he0;obtain⟨hlen,os1,fr1,a1,a2,a3,a4,a5⟩:=XW hs.M h1 hrel _ _ hh.left q;rw[Zf];obtain⟨u',NH,os2,fr2,b1,b2,b3,b4,b5,b6⟩:=fH hs h2 cv (j+scs.length) (by rw[←hlen];exact hh.right) (q+(AR E N cv j q scs).2.length)
      { u with bx:=P4 u.bx n (some { cs:=(AR E N cv j q scs).1,dirty:=true }),hp:=(AR E N cv j q scs).2++u.hp }
    refine⟨u',(AR E N cv j q scs).2++NH,os1++os2,fr1++fr2,a1.append b1,a2.append b2,fun p hp=>(List.mem_append.1 hp).elim (a3 p) (b3 p),by rw[b4,List.length_append,Nat.add_assoc],fun k=>?_,fun sf hsub hf σ2 S hst hw=>?_⟩
    · rw[b5,ee a2.row b2.row];cases AN NH k with
      |some x=>rfl
      |none=>
        show AN ((AR E N cv j q scs).2++u.hp) k=_;rw[Ir];cases AN (AR E N cv j q scs).2 k<;>rfl
    obtain⟨c1,c2⟩:=b6 sf hsub hf.right σ2 S hst (hw.right a2.len);refine⟨fun k tv hk=>?_,fun k e hk=>?_⟩
    · rcases c1 k tv hk with h3|⟨h3,h4,h5⟩
      · exact .inl h3
      exact .inr ⟨h3,h4,fun x hx=>by have:=h5 x hx;rw[List.length_append];omega⟩
    rcases c2 k e hk with h3|⟨h3,⟨cs,h4⟩,h5,h6,h7⟩
    · have h3:AN (P4 u.bx n (some { cs:=(AR E N cv j q scs).1,dirty:=true })) k=some e:=h3;rw[BW]at h3
      split at h3
      · rename_i hkn;cases h3;subst hkn;exact .inr ⟨rfl,⟨scs,zzm⟩,⟨e0,he0⟩,⟨blk,cells,el,hβ,hheap,a5 sf hsub hf.left σ2 S hst (hw.left a2.len),AE1 h1 hbh⟩,fun x hx=>by have:=a4 x hx;rw[List.length_append];omega⟩
      exact .inl h3
    exact .inr ⟨h3,⟨cs,zzn _ h4⟩,h5,h6,fun x hx=>by have:=h7 x hx;rw[List.length_append];omega⟩
structure Joined(P:Program)(n0:Nz)(nt L:Nat)(β:Nat→Option Nat)(σ:Nat→Option (Nat×Nat))(s:St0 E N)(a:Act)(w:World)(base:St0 E N)(sl:List Slot)(S:St0 E N)(σ2:Nat→Option (Nat×Nat)):Prop where
 sim:Sim P n0 nt β σ2 S a w
 ext:Ext P n0 (fun n=>L≤n) β σ s w β σ2 S w
 wf:WF S
 st:L≤S.st
 cleanB:∀n e,S.getB n=some e→e.dirty=false→base.getB n=some e
 cleanH:∀n e,S.getH n=some e→e.dirty=false→base.getH n=some e
 oldB:∀n e,S.getB n=some e→base.getB n=some e∨∃c,Slot.b n c∈sl
 oldH:∀n h,n<L→S.getH n=some h→base.getH n=some h
theorem ABR(hs:Sim P n0 nt β σ s a w){base:St0 E N}{L:Nat}
    (hbT:∀n tv,base.getT n=some tv→tv.gs=[]∧RelAV P n0 β σ s w tv.v (a.tmps.getD n undef)∧∀k∈tv.v.names,k<L)
    (hbB:∀n e,base.getB n=some e→n<L∧(∃e',s.getB n=some e'∧e'.cs=e.cs)∧∀k∈AJ e.cs,k<L)
    (hbH:∀n h,base.getH n=some h→n<L∧∃h',s.getH n=some h'∧h'.e=h.e∧h'.l=h.l∧h'.nw=h.nw∧h'.frozen=h.frozen)
    {rs:List SlotC} {cs:List (AC0 E N)} {vals:List Value} (hcs:RelCs P n0 β σ s w cs vals) {sl:List Slot} (hsl:∀b c,Slot.b b c∈sl→b<L) {ls1 ls2:List AW} {used:List Nat}
    (h1:ID (O:=std E N) s (base.hp.map (·.1)) [] rs cs=.ok (ls1,used)) (h2:JF (O:=std E N) s (base.hp.map (·.1)) used sl=.ok ls2) {cv:List PV} {j:Nat} (hcv:Holds cv j (ls1++ls2)) :
    ∃(σ2:Nat→Option (Nat×Nat)) (S:St0 E N),S=B1 (O:=std E N) cv (j+rs.length) (L+(AR E N cv j L rs).2.length) sl { base with hp:=(AR E N cv j L rs).2++base.hp } ∧
      RelCs P n0 β σ2 S w (AR E N cv j L rs).1 vals∧(∀n∈AJ (AR E N cv j L rs).1,n<S.st)∧Joined P n0 nt L β σ s a w base sl S σ2:=by
  obtain⟨hlen,os1,fr1,a1,a2,a3,a4,a5⟩:=XW hs.M h1 hcs _ _ hcv.left L;obtain⟨u',NH2,os2,fr2,b1,b2,b3,b4,b5,b6⟩:=fH hs h2 cv (j+rs.length) (by rw[←hlen];exact hcv.right) (L+(AR E N cv j L rs).2.length) { base with hp:=(AR E N cv j L rs).2++base.hp };generalize hS:B1 (O:=std E N) cv (j+rs.length) (L+(AR E N cv j L rs).2.length) sl { base with hp:=(AR E N cv j L rs).2++base.hp }=S at *
  have enc:=a1.append b1;have ents:=a2.append b2;have hst:S.st=L+((AR E N cv j L rs).2++NH2).length:=by rw[b4,List.length_append,Nat.add_assoc]
  have row:=ents.row;have gH:∀n,S.getH n=match AN ((AR E N cv j L rs).2++NH2) n with|some h=>some h|none=>base.getH n:=fun n=>by
    rw[b5,ee a2.row b2.row];cases AN NH2 n with
    |some x=>rfl
    |none=>
      show AN ((AR E N cv j L rs).2++base.hp) n=_;rw[Ir];cases AN (AR E N cv j L rs).2 n<;>rfl
  generalize hNH:(AR E N cv j L rs).2++NH2=NH at *
  generalize hos:os1++os2=os at *
  generalize hfr:fr1++fr2=fr at *
  let σ2:Nat→Option (Nat×Nat):=fun n=>if n<L then σ n else match os[n-L]? with
    |some (some i)=>σ i
    |_=>none
  let sf:=s.apply ({ hs:=fr }:Wr (std E N))
  have subf:Sub s sf:=enc.ok.sub rfl rfl;have frz:Frz sf fr:=enc.ok.frz rfl;have sfB:∀n,sf.getB n=s.getB n:=fun n=>State.getB_apply0 s _ rfl n
  have sfH:∀n,n∉fr.map (·.1)→sf.getH n=s.getH n:=fun n hn=>Eu hn
  have lt:∀n h,AN NH n=some h→L≤n∧n<S.st:=fun n h hh=>by
    have:=row.mem _ (row.get hh);rw[hst];exact this
  have small:∀n h,n<L→S.getH n=some h→base.getH n=some h:=fun n h hn hh=>by
    rw[gH]at hh;cases e:AN NH n with
    |none=>rw[e]at hh;exact hh
    |some x=>have:=(lt n x e).1;omega
  have big:∀n h,L≤n→S.getH n=some h→(n,h)∈NH:=fun n h hn hh=>by
    rw[gH]at hh;cases e:AN NH n with
    |none=>rw[e]at hh;have:=(hbH n h hh).1;omega
    |some x=>rw[e]at hh;cases hh;exact row.get e
  have find:∀n h,(n,h)∈NH→∃i o,n=L+i∧os[i]?=some o∧y5 P s h o∧h.frozen=false∧σ2 n=o.bind σ:=fun n h hm=>by
    obtain⟨i,o,e1,e2,e3,e4⟩:=ents.find hm;refine⟨i,o,e1,e2,e3,e4,?_⟩;have h1:¬n<L:=by omega
    have h2:n-L=i:=by omega
    simp only[σ2,h1,if_false,h2,e2];cases o<;>rfl
  have sB:∀n e,S.getB n=some e→n<L∧(∃e0,s.getB n=some e0)∧(∀k∈AJ e.cs,k<S.st)∧(e.dirty=false→base.getB n=some e):=fun n e hn=>by
    have hw0:∃σ2 S',(∀nw b,StB n0 β σ sf nw b→StB n0 β σ2 S' nw b)∧Wired σ σ2 S' (L+(AR E N cv j L rs).2.length) os2 NH2:=by
      refine⟨fun n=>match os2[n-(L+(AR E N cv j L rs).2.length)]? with|some (some i)=>σ i|_=>none,Aa NH2,fun nw b hb=>⟨fun hm=>?_,hb.2⟩,Z2 (fun i o p h1 h2=>⟨?_,?_⟩)⟩
      · rcases hm with⟨k,e,h1,_⟩|⟨k,h,cap,h1,h2,h3⟩
        · cases h1
        obtain⟨i,o,e1,e2,e3,e4⟩:=b2.find (b2.row.get h1);have:k-(L+(AR E N cv j L rs).2.length)=i:=by omega
        simp only[this,e2]at h3;cases o with
        |none=>cases h3
        |some x=>
          obtain⟨h0,q1,q2,q3,q4,q5⟩:=e3;have hx:some x∈os:=by rw[←hos];exact List.mem_append_right _ (List.mem_of_getElem? e2)
          have hxf:x∉fr.map (·.1):=fun hm=>by
            obtain⟨y,hy,e⟩:=List.mem_map.1 hm;exact enc.ap y hy (e▸hx)
          exact hb.1 (.inr ⟨x,h0,cap,by rw[sfH x hxf];exact q1,q4,h3⟩)
      · have:L+(AR E N cv j L rs).2.length+i-(L+(AR E N cv j L rs).2.length)=i:=by omega
        simp only[this,h1];cases o<;>rfl
      have:=b2.row.idx h2;have hm:=List.mem_of_getElem? h2;have:=b2.row.has (n:=p.1) (h:=p.2) hm;rw[b2.row.idx h2]at this;exact this
    obtain⟨σ3,S3,hst3,hw3⟩:=hw0;have hf2:Frz sf fr2:=by rw[←hfr]at frz;exact frz.right
    obtain⟨_,c2⟩:=b6 sf subf hf2 σ3 S3 hst3 hw3
    rcases c2 n e hn with h|⟨h3,⟨cs,h4⟩,h5,h6,h7⟩
    · obtain⟨q1,⟨e',q2,q3⟩,q4⟩:=hbB n e h;exact⟨q1,⟨e',q2⟩,fun k hk=>by have:=q4 k hk;omega,fun _=>h⟩
    refine⟨hsl n cs h4,h5,fun k hk=>?_,fun hd=>by rw[h3]at hd;cases hd⟩;have:=h7 k hk;rw[←b4]at this;exact this
  have inMf:∀b,InM β σ2 S b→InM β σ sf b:=fun b hb=>by
    rcases hb with⟨n,e,h1,h2⟩|⟨n,h,cap,h1,h2,h3⟩
    · obtain⟨_,⟨e0,h4⟩,_⟩:=sB n e h1;exact .inl ⟨n,e0,by rw[sfB];exact h4,h2⟩
    rcases Nat.lt_or_ge n L with hn|hn
    · have hb:=small n h hn h1;obtain⟨_,h',q1,q2,q3,q4,q5⟩:=hbH n h hb;have hnf:n∉fr.map (·.1):=fun hm=>by
        obtain⟨y,hy,e⟩:=List.mem_map.1 hm;obtain⟨h0,r1,r2⟩:=enc.fz y hy;rw[e,q1]at r1;cases r1
        rcases r2 with r2|r2
        · rw[q5,h2]at r2;cases r2
        exact r2.2.2 (by rw[e];exact List.mem_map.2 ⟨(n,h),di hb,rfl⟩)
      have:σ2 n=σ n:=by simp only[σ2,hn,if_true]
      exact .inr ⟨n,h',cap,by rw[sfH n hnf];exact q1,by rw[q5];exact h2,by rw[←this];exact h3⟩
    obtain⟨i,o,e1,e2,e3,e4,e5⟩:=find n h (big n h hn h1);rw[e5]at h3;cases o with
    |none=>cases h3
    |some x=>
      obtain⟨h0,q1,q2,q3,q4,q5⟩:=e3;have hx:some x∈os:=List.mem_of_getElem? e2;have hxf:x∉fr.map (·.1):=fun hm=>by
        obtain⟨y,hy,e⟩:=List.mem_map.1 hm;exact enc.ap y hy (e▸hx)
      exact .inr ⟨x,h0,cap,by rw[sfH x hxf];exact q1,q4,h3⟩
  have stf:∀nw b,StB n0 β σ sf nw b→StB n0 β σ2 S nw b:=fun nw b hb=>⟨fun hm=>hb.1 (inMf _ hm),hb.2⟩
  have wired:Wired σ σ2 S L os NH:=Z2 (fun i o p h1 h2=>by
    have hidx:=row.idx h2;have hm:=List.mem_of_getElem? h2;refine⟨?_,?_⟩
    · have h3:¬L+i<L:=by omega
      have h4:L+i-L=i:=by omega
      simp only[σ2,h3,if_false,h4,h1];cases o<;>rfl
    rw[gH];have:=row.has (n:=p.1) (h:=p.2) hm;rw[hidx]at this;rw[this])
  have hw1:Wired σ σ2 S L os1 (AR E N cv j L rs).2:=by rw[←hos,←hNH]at wired;exact wired.left a2.len
  have hw2:Wired σ σ2 S (L+(AR E N cv j L rs).2.length) os2 NH2:=by rw[←hos,←hNH]at wired;exact wired.right a2.len
  have hf1:Frz sf fr1:=by rw[←hfr]at frz;exact frz.left
  have hf2:Frz sf fr2:=by rw[←hfr]at frz;exact frz.right
  obtain⟨c1,c2⟩:=b6 sf subf hf2 σ2 S stf hw2;have x:Ext P n0 (fun n=>L≤n) β σ s w β σ2 S w:=by
    refine⟨rfl,rfl,rfl,Nat.le_refl _,fun _ _ _=>.inl rfl,fun b hb=>.inl (subf.inM (inMf b hb)),fun b e he _=>⟨(sB b e he).2.1,rfl⟩,fun n h hh hn=>?_⟩;have hn:n<L:=Nat.lt_of_not_le hn;obtain⟨_,h',q1,q2,q3,q4,q5⟩:=hbH n h (small n h hn hh);exact⟨h',q1,by simp only[σ2,hn,if_true],q2.symm,fun _=>by rw[q3]⟩
  have stS:∀nw b,StB n0 β σ s nw b→StB n0 β σ2 S nw b:=fun nw b hb=>⟨fun hm=>hb.1 (subf.inM (inMf _ hm)),hb.2⟩
  have mem:Mem P n0 β σ2 S w:=by
    refine⟨fun n e he=>?_,fun n h hh=>?_,fun b b' e e' blk h h' hb hb'=>?_,fun n n' h h' blk cap cap' hh hh' h1 h2=>?_,fun b e n h blk cap he hh h1 h2=>?_⟩
    · rcases c2 n e he with h|⟨_,_,_,h6,_⟩
      · obtain⟨q1,⟨e',q2,q3⟩,q4⟩:=hbB n e h;obtain⟨blk,cells,el,r1,r2,r3,r4⟩:=hs.M.B n e' q2;rw[q3]at r3 r4;exact⟨blk,cells,el,r1,r2,x.relCs (fun k hk hL=>by have:=q4 k hk;omega) r3,r4⟩
      exact h6
    · rcases Nat.lt_or_ge n L with hn|hn
      · obtain⟨_,h',q1,q2,q3,q4,q5⟩:=hbH n h (small n h hn hh);exact(hs.M.H n h' q1).view q2.symm q3.symm (by simp only[σ2,hn,if_true]) (fun _ _ _ ho=>by rw[←q4];exact ho) (fun b hb _=>by rw[←q4];exact stS _ b hb)
      obtain⟨i,o,e1,e2,e3,e4,e5⟩:=find n h (big n h hn hh);cases o with
      |none=>
        obtain⟨r1,t,ts,r2,r3⟩:=e3;exact .inl ⟨t,ts,r2,r3,fun y hy=>(by rw[r1]at hy;simp at hy),.inl ⟨e5,r1⟩⟩
      |some y=>
        obtain⟨h0,q1,q2,q3,q4,q5⟩:=e3;exact(hs.M.H y h0 q1).view q2 q3 e5 (fun _ _ _ ho=>ho.mono q5) (fun b hb _=>⟨(stS _ b hb).1,hb.2.mono q5⟩)
    · obtain⟨_,⟨e0,r1⟩,_⟩:=sB b e h;obtain⟨_,⟨e1,r2⟩,_⟩:=sB b' e' h';exact hs.M.uB b b' e0 e1 blk r1 r2 hb hb'
    ·
      have src:∀n h cap,S.getH n=some h→σ2 n=some (blk,cap)→∃y h0,s.getH y=some h0∧σ y=some (blk,cap)∧((n<L∧y=n∧n∈base.hp.map (·.1))∨(L≤n∧os[n-L]?=some (some y))):=fun n h cap hh h1=>by
        rcases Nat.lt_or_ge n L with hn|hn
        · have hb:=small n h hn hh;obtain⟨_,h',q1,_⟩:=hbH n h hb;simp only[σ2,hn,if_true]at h1;exact⟨n,h',q1,h1,.inl ⟨hn,rfl,List.mem_map.2 ⟨(n,h),di hb,rfl⟩⟩⟩
        obtain⟨i,o,e1,e2,e3,e4,e5⟩:=find n h (big n h hn hh);rw[e5]at h1;cases o with
        |none=>cases h1
        |some y=>
          obtain⟨h0,q1,_⟩:=e3;have:n-L=i:=by omega
          exact⟨y,h0,q1,h1,.inr ⟨hn,by rw[this];exact e2⟩⟩
      obtain⟨y,h0,r1,r2,r3⟩:=src n h cap hh h1;obtain⟨y',h0',r1',r2',r3'⟩:=src n' h' cap' hh' h2;have hy:=hs.M.uH y y' h0 h0' blk cap cap' r1 r1' r2 r2';subst hy
      rcases r3 with⟨g1,g2,g3⟩|⟨g1,g2⟩<;>rcases r3' with⟨k1,k2,k3⟩|⟨k1,k2⟩
      · omega
      · exact((enc.src y (List.mem_of_getElem? k2)).2.2.1 (g2▸g3)).elim
      · exact((enc.src y (List.mem_of_getElem? g2)).2.2.1 (k2▸k3)).elim
      have:=XX enc.nd g2 k2;omega
    obtain⟨_,⟨e0,r1⟩,_⟩:=sB b e he
    rcases Nat.lt_or_ge n L with hn|hn
    · obtain⟨_,h',q1,_⟩:=hbH n h (small n h hn hh);simp only[σ2,hn,if_true]at h2;exact hs.M.uX b e0 n h' blk cap r1 q1 h1 h2
    obtain⟨i,o,e1,e2,e3,e4,e5⟩:=find n h (big n h hn hh);rw[e5]at h2;cases o with
    |none=>cases h2
    |some y=>
      obtain⟨h0,q1,_⟩:=e3;exact hs.M.uX b e0 y h0 blk cap r1 q1 h1 h2
  have hLst:L≤S.st:=by rw[hst];omega
  refine⟨σ2,S,rfl,a5 sf subf hf1 σ2 S stf hw1,fun n hn=>?_,⟨hs.n0le,hs.size,fun n tv hn=>?_,mem,hs.kept.ext x⟩,x,⟨fun n hn=>⟨⟨fun k e he=>?_,fun k h hh=>?_⟩,fun k tv hk=>?_⟩,fun n tv hn=>?_⟩,hLst,fun n e he hd=>(sB n e he).2.2.2 hd,fun n h hh hd=>?_,fun n e he=>?_,fun n h hn hh=>small n h hn hh⟩
  · have:=a4 n hn;rw[hst,←hNH,List.length_append];omega
  · rcases c1 n tv hn with h|⟨h3,h4,_⟩
    · obtain⟨q1,q2,q3⟩:=hbT n tv h;exact .inl ⟨fun n b hm=>by rw[q1]at hm;simp at hm,x.relAV (fun k hk hL=>by have:=q3 k hk;omega) q2⟩
    exact .inl ⟨fun n b hm=>by rw[h3]at hm;simp at hm,h4⟩
  · obtain⟨r1,_,r3,_⟩:=sB k e he;exact⟨by omega,fun hm=>by have:=r3 n hm;omega⟩
  · rcases Nat.lt_or_ge k L with hk|hk
    · omega
    have:=row.mem _ (big k h hk hh);simp at this;omega
  · rcases c1 k tv hk with h|⟨_,_,h5⟩
    · obtain⟨_,_,q3⟩:=hbT k tv h;intro hm;have:=q3 n hm;omega
    intro hm;have:=h5 n hm;rw[←b4]at this;omega
  · rcases c1 n tv hn with h|⟨h3,_⟩
    · exact(hbT n tv h).1
    exact h3
  · rcases Nat.lt_or_ge n L with hn|hn
    · exact small n h hn hh
    have hm:=big n h hn hh;have:h.dirty=true:=by
      rw[←hNH]at hm;exact(List.mem_append.1 hm).elim (a3 (n,h)) (b3 (n,h))
    rw[this]at hd;cases hd
  rcases c2 n e he with h|⟨_,h4,_⟩
  · exact .inl h
  exact .inr h4
end
def Ms.le(a b:Ms):Prop:=∀n,(a.t.testBit n=true→b.t.testBit n=true)∧(a.r.testBit n=true→b.r.testBit n=true)
theorem Ms.le_refl(a:Ms):a.le a:=fun _=>⟨id,id⟩
theorem Ms.le_trans{a b c:Ms}(h:a.le b)(k:b.le c):a.le c:=fun n=>⟨fun x=>(k n).1 ((h n).1 x),fun x=>(k n).2 ((h n).2 x)⟩
theorem Ms.le_or_left(a b:Ms):a.le (a.or b):=fun n=>⟨fun h=>by simp[Ms.or,Nat.testBit_or,h],fun h=>by simp[Ms.or,Nat.testBit_or,h]⟩
theorem Ms.le_or_right(a b:Ms):b.le (a.or b):=fun n=>⟨fun h=>by simp[Ms.or,Nat.testBit_or,h],fun h=>by simp[Ms.or,Nat.testBit_or,h]⟩
theorem Ms.or_le{a b c:Ms}(h:a.le c)(k:b.le c):(a.or b).le c:=fun n=>by
 simp only[Ms.or,Nat.testBit_or,Bool.or_eq_true];exact⟨fun x=>x.elim (h n).1 (k n).1,fun x=>x.elim (h n).2 (k n).2⟩
def An.at(a:An):Ex→Option Ms
 | .nrm=>a.nrm
 | .ret=>a.ret
 | .ext id=>Bd a.exts id
def Wide(o:Option Ms)(m:Ms):Prop:=∃m2,o=some m2∧m.le m2
theorem Wide.of{o:Option Ms}{m m':Ms}(h:o=some m')(k:m.le m'):Wide o m:=⟨m',h,k⟩
theorem Wide.orL{o p:Option Ms}{m:Ms}(h:Wide o m):Wide (Zl o p) m:=by
 obtain⟨m2,rfl,h⟩:=h;cases p with
 |none=>exact⟨m2,rfl,h⟩
 |some q=>exact⟨m2.or q,rfl,Ms.le_trans h (Ms.le_or_left _ _)⟩
theorem Wide.orR{o p:Option Ms}{m:Ms}(h:Wide p m):Wide (Zl o p) m:=by
 obtain⟨m2,rfl,h⟩:=h;cases o with
 |none=>exact⟨m2,rfl,h⟩
 |some q=>exact⟨q.or m2,rfl,Ms.le_trans h (Ms.le_or_right _ _)⟩
theorem Wide.then{m1:Ms}{o:Option Ms}{m:Ms}(h:Wide o m):Wide (km m1 o) (m1.or m):=by
 obtain⟨m2,rfl,h⟩:=h;exact⟨m1.or m2,rfl,Ms.or_le (Ms.le_or_left _ _) (Ms.le_trans h (Ms.le_or_right _ _))⟩
theorem gZ{l:List (Nat×Ms)}{k j:Nat}:Bd (OQ l k) j=if j=k then none else Bd l j:=by
 induction l with
 |nil=>simp[OQ,Bd]
 |cons x l ih=>
  obtain⟨i,m⟩:=x;simp only[OQ];cases h:Nat.beq i k
  ·have hik:=Bt.1 h;simp only[Bd,ih]
   grind
  have:=AE.1 h;subst this;simp only[ih,Bd]
  by_cases hj:j=i
  ·simp[hj]
  rw[if_neg hj,if_neg hj,Bt.2 (fun e=>hj e.symm)]
theorem Wide.add{l:List (Nat×Ms)}{k j:Nat}{m x:Ms}(h:Wide (Bd l j) m):Wide (Bd (ZH l k x) j) m:=by
 unfold ZH
 split
 ·rename_i m' hm';simp only[Bd]
  split
  ·rename_i he;have:=AE.1 he;subst this;obtain⟨m2,h1,h2⟩:=h;rw[hm']at h1;cases h1;exact⟨_,rfl,Ms.le_trans h2 (Ms.le_or_left _ _)⟩
  rename_i he;rw[gZ,if_neg (fun e=>Bt.1 he e.symm)];exact h
 rename_i hn;simp only[Bd]
 split
 ·rename_i he;have:=AE.1 he;subst this;obtain⟨m2,h1,h2⟩:=h
  simp_all
 exact h
theorem y4{l:List (Nat×Ms)}{k:Nat}{x:Ms}:Wide (Bd (ZH l k x) k) x:=by
 unfold ZH
 split
 ·simp only[Bd,AE.2 rfl];exact⟨_,rfl,Ms.le_or_right _ _⟩
 simp only[Bd,AE.2 rfl];exact⟨_,rfl,Ms.le_refl _⟩
theorem Wide.allR{j:Nat}{m:Ms}:∀{l r:List (Nat×Ms)},Wide (Bd r j) m→Wide (Bd (UV l r) j) m
 | [],r,h=>h
 |(k,x)::l,r,h=>Wide.allR (l:=l) h.add
theorem Wide.allL{j:Nat}{m:Ms}:∀{l r:List (Nat×Ms)},Wide (Bd l j) m→Wide (Bd (UV l r) j) m
 | [],r,h=>by obtain⟨m2,h1,_⟩:=h;trivial
 |(k,x)::l,r,h=>by
  simp only[Bd]at h;simp only[UV]
  split at h
  ·rename_i he;have:=AE.1 he;subst this;obtain⟨m2,h1,h2⟩:=h;cases h1;refine Wide.allR ?_;obtain⟨m3,h3,h4⟩:=y4 (l:=r) (k:=k) (x:=x);exact⟨m3,h3,Ms.le_trans h2 h4⟩
  exact Wide.allL (l:=l) h
theorem Wide.map{j:Nat}{m m1:Ms}{l:List (Nat×Ms)}(h:Wide (Bd l j) m):Wide (Bd (l.map fun(k,x)=>(k,m1.or x)) j) (m1.or m):=by
 induction l with
 |nil=>obtain⟨m2,h1,_⟩:=h;trivial
 |cons x l ih=>
  obtain⟨k,x⟩:=x;simp only[List.map_cons,Bd]at h⊢
  split at h
  ·rename_i he;obtain⟨m2,h1,h2⟩:=h;cases h1;exact⟨_,rfl,Ms.or_le (Ms.le_or_left _ _) (Ms.le_trans h2 (Ms.le_or_right _ _))⟩
  simp_all
theorem Uj:∀{l:List Oper} {n:Nat},n∈Ar l→(fe l).testBit n=true
 | [],n,h=>by trivial
 |o::l,n,h=>by
  simp only[Ar]at h;simp only[fe,Nat.testBit_or,Bool.or_eq_true];cases hd:o.dst with
  |none=>rw[hd]at h;exact .inr (Uj h)
  |some d=>
   rw[hd]at h
   rcases List.mem_cons.1 h with rfl|h
   ·exact .inl (Dg.2 rfl)
   exact .inr (Uj h)
theorem mI{m n:Nat}:∀{k:Nat} {acc:List Nat},n∈P6 m k acc↔n∈acc∨(m.testBit n=true∧n≤k)
 |0,acc=>by
  simp only[P6]
  grind
 |k+1,acc=>by
  simp only[P6];rw[mI]
  grind
theorem kz{m n:Nat}(h:m.testBit n=true):n≤m.log2:=by
 have h1:=Nat.ge_two_pow_of_testBit h;have hm:m≠0:=by grind
 rcases Nat.lt_or_ge m.log2 n with h2|h2
 ·exfalso
  have h3:=(Nat.log2_lt hm).1 h2;omega
 exact h2
theorem N0{m n:Nat}:n∈P6 m (Yz m) []↔m.testBit n=true:=by
 rw[mI];constructor
 ·simp_all
 intro h;exact .inr ⟨h,kz h⟩
section
variable {E:Env} {N:Nat} {P:Program} {cfg:Cfg} {n0 n0':Nz} {nt:Nat} {β β':Nat→Option Nat} {σ σ':Nat→Option (Nat×Nat)} {s s' s2:St0 E N} {a a':Act} {w w':World}
theorem qO:∀{l:List Nat} {t:TM (TV (std E N))} {n:Nat} {tv:TV (std E N)},Dh (rQ t l) n=some tv→Dh t n=some tv∧n∉l
 | [],t,n,tv,h=>⟨h,by simp⟩
 |k::l,t,n,tv,h=>by
  simp only[rQ]at h;obtain⟨h1,h2⟩:=qO h;rw[Es]at h1
  split at h1
  ·cases h1
  rename_i hk;refine⟨h1,fun hm=>?_⟩
  rcases List.mem_cons.1 hm with rfl|hm
  ·by_cases hb:n<Fo
   ·omega
   have:Dh t n=none:=by
    unfold Dh;cases hx:Nat.blt n Fo
    ·rfl
    exact(hb (A5.1 hx)).elim
   simp_all
  trivial
theorem Li{l:List Nat}{n:Nat}{e:BEnt (std E N)}:AN (O8 s l) n=some e↔s.getB n=some e∧n∉l:=by
 unfold O8;have:=Uo (fun n => !DG n l) s.bx n;rw[this];cases h:DG n l
 ·have:n∉l:=fun hm=>by rw[Dn.2 hm]at h;cases h
  simp[this,State.getB]
 have:=Dn.1 h;simp[this]
theorem LJ{l:List Nat}{n:Nat}{e:HEnt (std E N)}:AN (Rw s l) n=some e↔s.getH n=some e∧n∉l:=by
 unfold Rw;have:=Uo (fun n => !DG n l) s.hp n;rw[this];cases h:DG n l
 ·have:n∉l:=fun hm=>by rw[Dn.2 hm]at h;cases h
  simp[this,State.getH]
 have:=Dn.1 h;simp[this]
theorem ZZ:∀{l:List (Nat×BEnt (std E N))},SU s l=true→∀{n:Nat} {e:BEnt (std E N)},AN l n=some e→∃e',s.getB n=some e'∧e'.dirty=false
 | [],_,n,e,h=>by trivial
 |(k,x)::l,hc,n,e,h=>by
  simp only[SU]at hc
  split at hc
  ·rename_i e' he'
   split at hc
   ·cases hc
   rename_i hd;simp only[AN]at h
   split at h
   ·simp_all
   exact ZZ hc h
  cases hc
theorem Zr:∀{l:List (Nat×HEnt (std E N))},R6 s l=true→∀{n:Nat} {e:HEnt (std E N)},AN l n=some e→∃e',s.getH n=some e'∧e'.dirty=false
 | [],_,n,e,h=>by trivial
 |(k,x)::l,hc,n,e,h=>by
  simp only[R6]at hc
  split at hc
  ·rename_i e' he'
   split at hc
   ·cases hc
   rename_i hd;simp only[AN]at h
   split at h
   ·simp_all
   exact Zr hc h
  cases hc
theorem LR:∀{l seen:List Nat} {sl:List Slot},LA cfg s l seen=some sl→(∀b c,Slot.b b c∈sl→b∈l∧∃e,s.getB b=some e)∧∀x∈sl,∃b c,x=Slot.b b c
 | [],seen,sl,h=>by simp only[LA]at h;simp_all
 |k::l,seen,sl,h=>by
  simp only[LA]at h
  split at h
  ·obtain⟨h1,h2⟩:=LR h
   grind
  split at h
  ·obtain⟨h1,h2⟩:=LR h
   grind
  rename_i e he
  split at h
  ·rename_i cs r hc hr;cases h;obtain⟨h1,h2⟩:=LR hr
   grind
  cases h
theorem O7:∀{l:List Nat} {b:Nat} {c:List SlotC},Slot.b b c∉RV cfg s l
 | [],b,c,h=>by trivial
 |n::l,b,c,h=>by
  simp only[RV]at h
  split at h
  ·split at h
   ·rcases List.mem_cons.1 h with e|h
    ·cases e
    exact O7 h
   exact O7 h
  exact O7 h
theorem hY{m:Ms}{b:Nat}:b∈DV s m↔∃n,m.r.testBit n=true∧b∈oV s n:=by
 unfold DV UZ;simp only[List.mem_flatten,List.mem_map];constructor
 ·rintro⟨l,⟨n,hn,rfl⟩,hb⟩;exact⟨n,N0.1 hn,hb⟩
 rintro⟨n,hn,hb⟩;exact⟨_,⟨n,N0.2 hn,rfl⟩,hb⟩
theorem sJ{m m':Ms}(h:m.le m'){b:Nat}(hb:b∈DV s m):b∈DV s m':=by
 obtain⟨n,h1,h2⟩:=hY.1 hb;exact hY.2 ⟨n,(h n).2 h1,h2⟩
theorem JG{e:Ex}{m:Ms}{live:Nat}{x:Way (std E N)}(h:NT cfg s e m live=.ok x):x.e=e∧x.base.st=s.st∧x.base.bx=O8 s (DV s m)∧x.base.hp=Rw s (Zy s m) ∧
    (∀n tv,x.base.getT n=some tv→s.getT n=some tv∧¬m.t.testBit n=true)∧∀b c,Slot.b b c∈x.slots→b∈DV s m∧∃e,s.getB b=some e:=by
  unfold NT at h
  split at h
  · cases h
  rename_i sl hl;cases h;refine⟨rfl,rfl,rfl,rfl,fun n tv hn=>?_,fun b c hm=>?_⟩
  · obtain⟨h1,h2⟩:=qO hn;exact⟨h1,fun hb=>h2 (N0.2 hb)⟩
  unfold AAO at hl;simp only at hl
  split at hl
  · rename_i l hbx;cases hl
    rcases List.mem_append.1 hm with hm|hm
    · exact(O7 hm).elim
    obtain⟨h1,_⟩:=LR hbx;obtain⟨h2,h3⟩:=h1 b c hm;refine⟨?_,h3⟩;unfold DV
    grind
  cases hl
theorem sV{e:Ex}{m:Ms}{live:Nat}{x:Way (std E N)}(h:NT cfg s e m live=.ok x):x.hs=sR cfg s m:=by
 unfold NT at h
 grind
theorem MI:∀{l seen:List Nat} {n:Nat},n∈(M9 s l seen).map (·.1)→n∈l∧∃h,s.getH n=some h∧h.frozen=false
 | [],_,n,h=>by trivial
 |k::l,seen,n,h=>by
  simp only[M9]at h
  split at h
  ·obtain⟨h1,h2⟩:=MI h
   simp_all
  split at h
  ·obtain⟨h1,h2⟩:=MI h
   simp_all
  rename_i h0 hg
  split at h
  ·obtain⟨h1,h2⟩:=MI h
   simp_all
  rename_i hf;simp only[List.map_cons]at h
  rcases List.mem_cons.1 h with rfl|h
  ·simp_all
  obtain⟨h1,h2⟩:=MI h
  simp_all
theorem Oz{n:Nat}{h0:HEnt (std E N)}(hg:s.getH n=some h0)(hf:h0.frozen=false):∀{l seen:List Nat},n∈l→n∉seen→n∈(M9 s l seen).map (·.1)
 | [],_,h,_=>by simp at h
 |k::l,seen,h,hn=>by
  simp only[M9]
  rcases List.mem_cons.1 h with rfl|h
  ·have h1:DG n seen=false:=by
    cases hm:DG n seen
    ·rfl
    exact(hn (Dn.1 hm)).elim
   simp_all
  split
  ·exact Oz hg hf h hn
  split
  ·exact Oz hg hf h hn
  rename_i h1 hk
  split
  ·exact Oz hg hf h hn
  simp only[List.map_cons]
  by_cases e:n=k
  ·simp_all
  exact zzn _ (Oz hg hf h (fun hm=>(List.mem_cons.1 hm).elim e hn))
theorem pK:∀{l:List Nat} {n id:Nat},n∈l→id∈pD s n→id∈rV s l
 |k::l,n,id,hn,hi=>by
  simp only[rV,List.mem_append]
  rcases List.mem_cons.1 hn with rfl|hn
  ·refine .inl ?_;unfold pD at hi
   split at hi
   ·rename_i gs e i h;rw[h];trivial
   trivial
  exact .inr (pK hn hi)
theorem zX{m m':Ms}(h:m.le m'){n:Nat}(hn:n∈(sR cfg s m).map (·.1)):n∈Zy s m':=by
 obtain⟨h1,h0,h2,h3⟩:=MI hn;unfold Zy
 rcases List.mem_append.1 h1 with h1|h1
 ·refine List.mem_append_right _ (Oz h2 h3 ?_ (by simp));simp only[List.mem_flatten,List.mem_map]at h1⊢;obtain⟨q,⟨k,hk,rfl⟩,hq⟩:=h1;exact⟨_,⟨k,N0.2 ((h k).2 (N0.1 hk)),rfl⟩,hq⟩
 refine List.mem_append_left _ ?_;unfold ACp at h1
 split at h1
 ·simp only[List.mem_flatten,List.mem_map]at h1;obtain⟨q,⟨k,hk,rfl⟩,hq⟩:=h1;have hk:=(List.mem_filter.1 hk).1;unfold fR;refine List.mem_append_left _ (pK (n:=k) ?_ hq);refine N0.2 ?_;rw[Nat.testBit_or,(h k).2 (N0.1 hk),Bool.or_true]
 trivial
end
end Go.Px
end
