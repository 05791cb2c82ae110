/- Part 2. -/
import Derived.Test.YtejjoflbpnjohaaGreatDoorPart01
import Derived.ChangeKeysEq
set_option linter.unusedVariables false
set_option linter.unusedSimpArgs false
section
namespace Go.Px
theorem AD {a b:Nat}:Nat.beq a b=true↔a=b:=by
 constructor
 ·exact Nat.eq_of_beq_eq_true
 ·rintro rfl;exact Nat.beq_refl a
theorem BP {a b:Nat}:Nat.beq a b=false↔a≠b:=by
 rw [← Bool.not_eq_true,AD]
theorem Bd {a b:Nat}:Nat.blt a b=true↔a<b:=by
 unfold Nat.blt;rw [Nat.ble_eq];omega
theorem TM.get_set {α : Type} : ∀ (d : Nat) (t : TM α) (k j : Nat) (v : Option α), k < 2 ^ d → j < 2 ^ d →
    TM.get d (TM.set d t k v) j=if j=k then v else TM.get d t j
  | 0,t,k,j,v,hk,hj=>by
    have h1:k=0:=by omega
    have h2:j=0:=by omega
    subst h1;subst h2;cases v<;>simp [TM.set,TM.get]
  | d+1,t,k,j,v,hk,hj=>by
    have hk2:k / 2<2 ^ d:=by rw [Nat.pow_succ] at hk;omega
    have hj2:j / 2<2 ^ d:=by rw [Nat.pow_succ] at hj;omega
    have ih:=fun t=>TM.get_set d t (k / 2) (j / 2) v hk2 hj2
    have hget : TM.get (d + 1) t j = match Nat.beq (j % 2) 0 with
        | true=>TM.get d t.kids.1 (j / 2)
        | false=>TM.get d t.kids.2 (j / 2):=by
      cases t with
      | node l r=>rfl
      | e=>cases d<;>simp [TM.get,TM.kids]<;>split<;>rfl
      | leaf a=>cases d<;>simp [TM.get,TM.kids]<;>split<;>rfl
    rw [hget];simp only [TM.set]
    rcases hb:Nat.beq (k % 2) 0 with _ | _<;>rcases hc:Nat.beq (j % 2) 0 with _ | _
    all_goals simp only [TM.get,hc,ih]
    all_goals first
      | (have e1 := AD.1 hb; have e2 := BP.1 hc; have : j ≠ k := by intro h; subst h; omega
         rw [if_neg this])
      | (have e1 := BP.1 hb; have e2 := AD.1 hc; have : j ≠ k := by intro h; subst h; omega
         rw [if_neg this])
      | (by_cases hjk : j = k
         · subst hjk;simp
         · have e1 : j / 2 ≠ k / 2 := by
             intro h;have x1:=hb;have x2:=hc
             first
               | (have:=AD.1 x1;have:=AD.1 x2;omega)
               | (have:=BP.1 x1;have:=BP.1 x2;omega)
           rw [if_neg e1,if_neg hjk])
theorem DX {α : Type} (t : TM α) (k j : Nat) (v : Option α) :
    Ci (GX t k v) j=if j=k∧k<DG then v else Ci t j:=by
  unfold GX Ci
  rcases h1:Nat.blt j DG with _ | _
  · have : ¬ (j = k ∧ k < DG) := by
      rintro ⟨rfl,h⟩;rw [← Bd,h1] at h;exact Bool.noConfusion h
    rw [if_neg this]
  · rcases h2:Nat.blt k DG with _ | _
    · have : ¬ (j = k ∧ k < DG) := by
        rintro ⟨rfl,h⟩;rw [h1] at h2;exact Bool.noConfusion h2
      rw [if_neg this]
    · have hk:=Bd.1 h2;have hj:=Bd.1 h1;simp only [];rw [TM.get_set Nw t k j v (by simpa [DG,Nw] using hk) (by simpa [DG,Nw] using hj)];simp [hk]
theorem TM.get_e {α:Type} (d k:Nat):TM.get d (TM.e:TM α) k=none:=by cases d<;>rfl
theorem UF {α:Type} (k:Nat):Ci (TM.e:TM α) k=none:=by
 unfold Ci;split
 ·exact TM.get_e _ _
 ·rfl
theorem TU {α:Type}:∀ (l:List (Nat×α)) (k j:Nat),AH (Uq l k) j=if j=k then none else AH l j
 | [],k,j=>by simp [Uq,AH]
 | (i,a)::l,k,j=>by
  have ih:=TU l k j;simp only [Uq]
  rcases h:Nat.beq i k with _ | _
  ·have hik:=BP.1 h;simp only [AH]
   rcases h2:Nat.beq i j with _ | _
   ·exact ih
   ·have:=AD.1 h2;rw [if_neg (by omega)]
  ·have hik:=AD.1 h;simp only [AH,ih]
   by_cases hjk:j=k
   ·rw [if_pos hjk,if_pos hjk]
   ·rw [if_neg hjk,if_neg hjk,BP.2 (by omega)]
theorem BB {α:Type} (l:List (Nat×α)) (k j:Nat) (v:Option α):AH (NF l k v) j=if j=k then v else AH l j:=by
 cases v with
 | none=>simp only [NF];exact TU l k j
 | some a =>
  simp only [NF,AH]
  rcases h:Nat.beq k j with _ | _
  ·have:=BP.1 h;rw [TU,if_neg (by omega),if_neg (by omega)]
  ·have:=AD.1 h;rw [if_pos this.symm]
theorem RQ {α:Type} (p:Nat→Bool):∀ (l:List (Nat×α)) (k:Nat),AH (l.filter fun x=>p x.1) k=if p k then AH l k else none
 | [],k=>by simp [AH]
 | (i,a)::l,k=>by
  have ih:=RQ p l k;simp only [List.filter_cons]
  rcases hp:p i with _ | _
  ·simp only [Bool.false_eq_true,if_false,ih,AH]
   rcases h:Nat.beq i k with _ | _
   ·rfl
   ·have:=AD.1 h;subst this;simp [hp]
  ·simp only [if_true,AH]
   rcases h:Nat.beq i k with _ | _
   ·exact ih
   ·have:=AD.1 h;subst this;simp [hp]
theorem Sx {α β:Type} (f:α→β):∀ (l:List (Nat×α)) (k:Nat),AH (l.map fun (n,a)=>(n,f a)) k=(AH l k).map f
 | [],k=>rfl
 | (i,a)::l,k=>by
  have ih:=Sx f l k;simp only [List.map_cons,AH]
  rcases h:Nat.beq i k with _ | _
  ·exact ih
  ·rfl
theorem Gv {α : Type} : ∀ (l r : List (Nat × α)) (k : Nat), AH (l ++ r) k = match AH l k with
    | some a=>some a
    | none=>AH r k
  | [],r,k=>rfl
  | (i,a)::l,r,k=>by
    have ih:=Gv l r k;simp only [List.cons_append,AH]
    rcases h:Nat.beq i k with _ | _
    · exact ih
    · rfl
theorem Wl {α:Type}:∀ {l:List (Nat×α)} {k:Nat} {a:α},AH l k=some a→(k,a)∈l
 | (i,b)::l,k,a,h=>by
  simp only [AH] at h
  rcases hb:Nat.beq i k with _ | _
  ·rw [hb] at h;exact zzm _ (Wl h)
  ·rw [hb] at h;have:=AD.1 hb;subst this;cases h;exact zzl
 | [],k,a,h=>by simp [AH] at h
theorem CR {n:Nat}:∀ {l:List Nat},Co n l=true↔n∈l
 | []=>by simp [Co]
 | m::l=>by
  simp only [Co]
  rcases h:Nat.beq n m with _ | _
  ·rw [CR,List.mem_cons];have:=BP.1 h;simp [this]
  ·have:=AD.1 h;simp [this]
theorem H8:∀ {a b:List Nat},Af a b=true↔a=b
 | [],[]=>by simp [Af]
 | a::l,b::r=>by
  simp only [Af]
  rcases h:Nat.beq a b with _ | _
  ·have:=BP.1 h;simp [this]
  ·have:=AD.1 h;simp [this,H8]
 | [],_::_=>by simp [Af]
 | _::_,[]=>by simp [Af]
theorem GJ {a b:IntKind}:Ra a b=true↔a=b:=by cases a<;>cases b<;>simp [Ra]
theorem Wu {α:Type}:∀ (ws:List (Nat×Option α)) (l:List (Nat×α)) (k:Nat),(∀ x∈ws,x.1≠k)→AH (BA l ws) k=AH l k
 | [],l,k,h=>rfl
 | (n,v)::r,l,k,h=>by
  simp only [BA];rw [Wu r _ k (fun x hx=>h x (zzm _ hx)),BB,if_neg];have:=h (n,v) zzl;exact fun e=>this e.symm
theorem EA {α:Type}:∀ (a b:List (Nat×Option α)) (l:List (Nat×α)),BA l (a++b)=BA (BA l a) b
 | [],b,l=>rfl
 | (n,v)::r,b,l=>by simp only [List.cons_append,BA];exact EA r b _
section
variable {O:Alg} {α β:Type} {s:State O}
theorem zzi (x : RM O α) (f : α → RM O β) : ∀ (m : Nat), RM.run s (x.bind f) m = match RM.run s x m with
    | .ok (a,m')=>RM.run s (f a) m'
    | .error e=>.error e:=by
  induction x with
  | ret a=>intro m;rfl
  | fail w=>intro m;rfl
  | t n g ih=>intro m;simp only [RM.bind,RM.run];exact ih _ _
  | b n g ih=>intro m;simp only [RM.bind,RM.run];exact ih _ _
  | h n g ih=>intro m;simp only [RM.bind,RM.run];exact ih _ _
theorem zza {x : RM O α} {f : α → RM O β} {m m' : Nat} {b : β} (h : RM.run s (x.bind f) m = .ok (b, m')) :
    ∃ a m1,RM.run s x m=.ok (a,m1)∧RM.run s (f a) m1=.ok (b,m'):=by
  rw [zzi] at h;cases hx:RM.run s x m with
  | error e=>rw [hx] at h;cases h
  | ok p=>obtain ⟨a,m1⟩:=p;rw [hx] at h;exact ⟨a,m1,rfl,h⟩
theorem zzc {a b:α} {m m':Nat} (h:RM.run s (RM.ret a:RM O α) m=.ok (b,m')):a=b:=by
 simp only [RM.run,Except.ok.injEq,Prod.mk.injEq] at h;exact h.1
theorem zzb {w:String} {b:α} {m m':Nat} (h:RM.run s (RM.fail w:RM O α) m=.ok (b,m')):False:=by
 simp [RM.run] at h
theorem zzd {b:Bool} {w:String} {u:Unit} {m m':Nat} (h:RM.run s (RM.guard b w) m=.ok (u,m')):b=true:=by
 cases b
 ·exact (zzb h).elim
 ·rfl
theorem zzh {x:Option α} {w:String} {a:α} {m m':Nat} (h:RM.run s (RM.ofOpt w x) m=.ok (a,m')):x=some a:=by
 cases x with
 | none=>exact (zzb h).elim
 | some b=>exact congrArg some (zzc h)
theorem zze {n:Nat} {f:Option (TV O)→RM O α} {a:α} {m m':Nat} (h:RM.run s (RM.t n f) m=.ok (a,m')):∃ m1,RM.run s (f (s.getT n)) m1=.ok (a,m') :=
 ⟨_,h⟩
theorem zzg {n:Nat} {f:Option (BEnt O)→RM O α} {a:α} {m m':Nat} (h:RM.run s (RM.b n f) m=.ok (a,m')):∃ m1,RM.run s (f (s.getB n)) m1=.ok (a,m') :=
 ⟨_,h⟩
theorem zzf {n:Nat} {f:Option (HEnt O)→RM O α} {a:α} {m m':Nat} (h:RM.run s (RM.h n f) m=.ok (a,m')):∃ m1,RM.run s (f (s.getH n)) m1=.ok (a,m') :=
 ⟨_,h⟩
end
section
variable {O:Alg} (s:State O)
theorem State.getT_apply1 (d : Nat) (v : Option (TV O)) (w : Wr O) (hw : w.ts = [(d, v)]) (n : Nat) :
    (s.apply w).getT n=if n=d∧d<DG then v else s.getT n:=by
  unfold State.apply State.getT;rw [hw];simp only [State.applyT];exact DX _ _ _ _
theorem State.getT_apply0 (w:Wr O) (hw:w.ts=[]) (n:Nat):(s.apply w).getT n=s.getT n:=by
 unfold State.apply State.getT;rw [hw];rfl
theorem State.getB_apply0 (w:Wr O) (hw:w.bs=[]) (n:Nat):(s.apply w).getB n=s.getB n:=by
 unfold State.apply State.getB;rw [hw];rfl
theorem State.getB_apply1 (b : Nat) (v : Option (BEnt O)) (w : Wr O) (hw : w.bs = [(b, v)]) (n : Nat) :
    (s.apply w).getB n=if n=b then v else s.getB n:=by
  unfold State.apply State.getB;rw [hw];exact BB _ _ _ _
theorem State.getH_apply0 (w:Wr O) (hw:w.hs=[]) (n:Nat):(s.apply w).getH n=s.getH n:=by
 unfold State.apply State.getH;rw [hw];rfl
end
section
variable {E:Env} {N:Nat} {P:Program} {n0:Nz} {nt:Nat} {β:Nat→Option Nat} {σ:Nat→Option (Nat×Nat)} {s:St0 E N} {a:Act} {w:World}
theorem jK:∀ {gs ctx:List (Nat×Bool)},Z0 gs ctx=true→∀ x∈gs,x∈ctx
 | [],_,_,x,hx=>by simp at hx
 | (n,b)::r,ctx,h,x,hx=>by
  simp only [Z0] at h
  split at h
  ·rename_i hany
   rcases List.mem_cons.1 hx with rfl | hx
   ·rw [List.any_eq_true] at hany;obtain ⟨⟨m,c⟩,hm,he⟩:=hany;simp only [zzj,beq_iff_eq] at he;have:=AD.1 he.1;rw [this,he.2];exact hm
   ·exact jK h x hx
  ·cases h
theorem Facts.of_in {gs ctx:List (Nat×Bool)} (h:Z0 gs ctx=true) (hf:Facts a ctx):Facts a gs :=
 fun n b hm=>hf n b (jK h _ hm)
theorem aY {t:TypeId} {v:Value} {c:AC0 E N} (h:UZ P t v=some c):RelC P n0 β σ s w c v∧c.names=[]∧v.oneCell'=true:=by
 unfold UZ at h
 split at h
 ·rename_i k k' n hk
  split at h
  ·rename_i hkk;cases h;exact ⟨by simp only [RelC];rw [GJ.1 hkk],rfl,rfl⟩
  ·cases h
 ·rename_i b hk;cases h;cases b<;>exact ⟨rfl,rfl,rfl⟩
 ·rename_i x hk;cases h;exact ⟨rfl,rfl,rfl⟩
 ·rename_i e hk
  split at h
  ·rename_i ts hts;cases h;exact ⟨⟨t,ts,hk,hts,none,rfl⟩,rfl,rfl⟩
  ·cases h
 ·cases h;exact ⟨rfl,rfl,rfl⟩
 ·cases h
theorem Y2:∀ {ts:List TypeId} {vs:List Value} {cs:List (AC0 E N)},KG P ts vs=some cs→RelCs P n0 β σ s w cs vs∧AF cs=[]∧cs.length=ts.length∧∀ v∈vs,v.oneCell'=true
 | [],[],cs,h=>by cases h;exact ⟨trivial,rfl,rfl,by simp⟩
 | t::ts,v::vs,cs,h=>by
  simp only [KG] at h
  split at h
  ·rename_i c r hc hr;cases h;obtain ⟨r1,n1,o1⟩:=aY (n0:=n0) (β:=β) (σ:=σ) (s:=s) (w:=w) hc;obtain ⟨r2,n2,l2,o2⟩:=Y2 hr;exact ⟨⟨r1,r2⟩,by simp [AF,n1,n2],by simp [l2],fun x hx=>(List.mem_cons.1 hx).elim (fun e=>e▸o1) (o2 x)⟩
  ·cases h
 | [],_::_,_,h=>by simp [KG] at h
 | _::_,[],_,h=>by simp [KG] at h
theorem bZ {t : TypeId} {v : Value} {x : Val (std E N)} (h : O3 P t v = some x) :
    RelVal P n0 β σ s w x v∧AF x.cs=[]∧∀ u∈v.cells.toList,u.oneCell'=true:=by
  unfold O3 at h
  split at h
  · rename_i cs
    split at h
    · rename_i ts hts
      split at h
      · rename_i l hl;cases h;obtain ⟨r,n,_,o⟩:=Y2 (n0:=n0) (β:=β) (σ:=σ) (s:=s) (w:=w) hl;exact ⟨⟨r,cs,rfl⟩,n,o⟩
      · cases h
    · cases h
  · rename_i hna
    split at h
    · rename_i c hc;cases h;obtain ⟨r,n,o⟩:=aY (n0:=n0) (β:=β) (σ:=σ) (s:=s) (w:=w) hc;have hcells:v.cells=#[v]:=by cases v<;>first | rfl | (exact (hna _ rfl).elim)
      exact ⟨⟨by rw [hcells];exact ⟨r,trivial⟩,o⟩,by simp [AF,n],by rw [hcells];simpa using o⟩
    · cases h
theorem Fresh.av {n:Nat} (hf:Fresh a s n) {k:Nat} {tv:TV (std E N)} (h:s.getT k=some tv) (hg:Facts a tv.gs):n∉tv.v.names:=hf.t k tv h hg
theorem ST {ctx : List (Nat × Bool)} {T : TypeId} {x : Operand} {v : AV (std E N)} {m m' : Nat} (hs : Sim P n0 nt β σ s a w) (hf : Facts a ctx)
    (h:RM.run s (ev P ctx T x) m=.ok (v,m')):RelAV P n0 β σ s w v (a.eval x)∧∀ n,Fresh a s n→n∉v.names:=by
  cases x with
  | tmp k =>
    obtain ⟨m1,h⟩:=zze h;cases hg:s.getT k with
    | none=>rw [hg] at h;exact (zzb h).elim
    | some tv =>
      rw [hg] at h;simp only at h
      split at h
      · rename_i hin;cases zzc h;refine ⟨?_,fun n hn=>hn.t k tv hg (hf.of_in hin)⟩
        rcases hs.T k tv hg with ⟨_,hr⟩ | ⟨hnf,_⟩
        · exact hr
        · exact (hnf (hf.of_in hin)).elim
      · exact (zzb h).elim
  | const c =>
    simp only [ev] at h;cases hx:O3 (O:=std E N) P T c with
    | some x =>
      rw [hx] at h;cases zzc h;obtain ⟨r,n,_⟩:=bZ (n0:=n0) (β:=β) (σ:=σ) (s:=s) (w:=w) hx;exact ⟨r,fun k _=>by simp [AV.names,n]⟩
    | none=>rw [hx] at h;exact (zzb h).elim
  | func f =>
    unfold ev at h;cases zzc h;exact ⟨⟨⟨⟨[],rfl,rfl,by simp⟩,trivial⟩,rfl⟩,fun k _=>by simp [AV.names,one,AF,AC.names,Hf]⟩
  | global g=>exact (zzb h).elim
theorem KY {ctx : List (Nat × Bool)} {T : TypeId} {x : Operand} {v : Val (std E N)} {m m' : Nat} (hs : Sim P n0 nt β σ s a w) (hf : Facts a ctx)
    (h:RM.run s (evV P ctx T x) m=.ok (v,m')):RelVal P n0 β σ s w v (a.eval x)∧∀ n,Fresh a s n→n∉AF v.cs:=by
  obtain ⟨y,m1,h1,h2⟩:=zza h;obtain ⟨r,n⟩:=ST hs hf h1;cases y with
  | val u=>cases zzc h2;exact ⟨r,n⟩
  | tup us=>exact (zzb h2).elim
theorem BT {v:Value} (h:v.oneCell'=true):v.cells=#[v]:=by cases v<;>first | rfl | (simp [Value.oneCell'] at h)
theorem DL {ctx : List (Nat × Bool)} {T : TypeId} {x : Operand} {c : AC0 E N} {m m' : Nat} (hs : Sim P n0 nt β σ s a w) (hf : Facts a ctx)
    (h:RM.run s (evC P ctx T x) m=.ok (c,m')):RelC P n0 β σ s w c (a.eval x)∧(a.eval x).oneCell'=true∧∀ n,Fresh a s n→n∉c.names:=by
  obtain ⟨y,m1,h1,h2⟩:=zza h;obtain ⟨r,n⟩:=KY hs hf h1;obtain ⟨ag,cs⟩:=y
  split at h2
  · rename_i c1 hag hcs;simp only at hag hcs;subst hag;subst hcs;cases zzc h2;obtain ⟨r1,r2⟩:=r;simp only at r2;rw [BT r2] at r1;exact ⟨r1.1,r2,fun k hk=>by have:=n k hk;simpa [AF] using this⟩
  · exact (zzb h2).elim
theorem RelC.one {c:AC0 E N} {v:Value} (h:RelC P n0 β σ s w c v):v.oneCell'=true:=by
 cases c with
 | int k i=>have h':v=_:=h;subst h';rfl
 | bool b=>have h':v=_:=h;subst h';rfl
 | str x=>have h':v=_:=h;subst h';rfl
 | nil e=>obtain ⟨_,_,_,_,x,rfl⟩:=h;rfl
 | imm e nw l=>obtain ⟨t,ht,hr⟩:=h;cases hr;rfl
 | own e id=>obtain ⟨⟨_,_,x,y,z,rfl⟩,_⟩:=h;rfl
 | ptr b off=>obtain ⟨blk,rfl,_⟩:=h;rfl
 | aptr b off n sz i inner=>obtain ⟨_,_,blk,rfl,_⟩:=h;rfl
 | eptr id i off=>obtain ⟨_,blk,o,rfl,_⟩:=h;rfl
 | iptr e nw l i off=>obtain ⟨_,_,_,_,_,_,_,_,_,_,_,rfl⟩:=h;rfl
 | fn f caps=>obtain ⟨vs,rfl,_⟩:=h;rfl
 | nilptr=>have h':v=_:=h;subst h';rfl
 | tail e id i=>obtain ⟨_,⟨_,_,x,y,z,rfl⟩,_⟩:=h;rfl
 | mp e id=>obtain ⟨⟨_,r,rfl⟩,_⟩:=h;rfl
 | any T=>exact h
theorem RelCs.one:∀ {cs:List (AC0 E N)} {vs:List Value},RelCs P n0 β σ s w cs vs→∀ v∈vs,v.oneCell'=true
 | [],[],_,v,hv=>by simp at hv
 | c::cs,x::vs,h,v,hv=>by
  rcases List.mem_cons.1 hv with rfl | hv
  ·exact RelC.one h.1
  ·exact RelCs.one h.2 v hv
 | [],_::_,h,_,_=>h.elim
 | _::_,[],h,_,_=>h.elim
theorem RelCs.length:∀ {cs:List (AC0 E N)} {vs:List Value},RelCs P n0 β σ s w cs vs→cs.length=vs.length
 | [],[],_=>rfl
 | c::cs,x::vs,h=>by simp [RelCs.length h.2]
 | [],_::_,h=>h.elim
 | _::_,[],h=>h.elim
theorem RelCs.get:∀ {cs:List (AC0 E N)} {vs:List Value},RelCs P n0 β σ s w cs vs→∀ (i:Nat) (c:AC0 E N) (v:Value),cs[i]?=some c→vs[i]?=some v→RelC P n0 β σ s w c v
 | c::cs,x::vs,h,0,c',v,hc,hv=>by simp at hc hv;subst hc;subst hv;exact h.1
 | c::cs,x::vs,h,i+1,c',v,hc,hv=>RelCs.get h.2 i c' v (by simpa using hc) (by simpa using hv)
 | [],_,_,i,c',v,hc,_=>by simp at hc
 | _::_,[],h,_,_,_,_,_=>h.elim
theorem bv {ctx : List (Nat × Bool)} {x : Operand} {i : Int} {m m' : Nat} (hs : Sim P n0 nt β σ s a w) (hf : Facts a ctx)
    (h:RM.run s (evI (O:=std E N) ctx x) m=.ok (i,m')):∃ k,a.eval x=.int k i:=by
  cases x with
  | tmp k =>
    obtain ⟨m1,h⟩:=zze h;cases hg:s.getT k with
    | none=>rw [hg] at h;exact (zzb h).elim
    | some tv =>
      rw [hg] at h;simp only at h
      split at h
      · rename_i k' i' hin hv;cases zzc h
        rcases hs.T k tv hg with ⟨_,hr⟩ | ⟨hnf,_⟩
        · rw [hv] at hr;obtain ⟨r1,r2⟩:=hr;simp only at r2;rw [BT r2] at r1;exact ⟨k',r1.1⟩
        · exact (hnf (hf.of_in hin)).elim
      · exact (zzb h).elim
  | const c =>
    unfold evI at h
    split at h
    · rename_i k n hc;cases hc;cases zzc h;exact ⟨_,rfl⟩
    · rename_i hx;cases hx
    · exact (zzb h).elim
  | func f=>exact (zzb h).elim
  | global g=>exact (zzb h).elim
theorem W2 : ∀ {gs : List (Nat × Bool)} {g : Option Bool} {m m' : Nat}, Sim P n0 nt β σ s a w → Facts a gs →
    RM.run s (bn (O:=std E N) gs) m=.ok (g,m')→∀ b,g=some b→b=true
  | [],g,m,m',hs,hf,h,b,hb=>by cases zzc h;cases hb
  | (n,want)::r,g,m,m',hs,hf,h,b,hb=>by
    obtain ⟨m1,h⟩:=zze h;cases hg:s.getT n with
    | none=>rw [hg] at h;exact (zzb h).elim
    | some tv =>
      rw [hg] at h;simp only at h
      split at h
      · rename_i gs' b' heq;cases heq;obtain ⟨g1,m2,h1,h2⟩:=zza h;have ih:=W2 hs (fun n b hm=>hf n b (zzm _ hm)) h1;have hn:a.tmps.getD n undef=.bool want:=hf n want zzl;have hb':b'=want:=by
          rcases hs.T n _ hg with ⟨_,hr⟩ | ⟨_,hu⟩
          · obtain ⟨r1,r2⟩:=hr;simp only at r2;rw [BT r2] at r1;have e:a.tmps.getD n undef=.bool b':=r1.1;rw [hn] at e;cases e;rfl
          · rw [hu] at hn;cases hn
        have e2:=zzc h2;rw [hb] at e2;subst hb';cases b'<;>cases g1<;>simp_all
      · exact (zzb h).elim
end
section
variable {E:Env} {N:Nat} {P:Program} {n0:Nz} {nt:Nat} {β:Nat→Option Nat} {σ:Nat→Option (Nat×Nat)} {s:St0 E N} {a:Act} {w:World}
theorem RelCs.take:∀ {cs:List (AC0 E N)} {vs:List Value} (n:Nat),RelCs P n0 β σ s w cs vs→RelCs P n0 β σ s w (cs.take n) (vs.take n)
 | cs,vs,0,h=>by simp [RelCs]
 | [],[],n+1,h=>by simp [RelCs]
 | c::cs,v::vs,n+1,h=>⟨h.1,RelCs.take n h.2⟩
 | [],_::_,_+1,h=>h.elim
 | _::_,[],_+1,h=>h.elim
theorem RelCs.drop:∀ {cs:List (AC0 E N)} {vs:List Value} (n:Nat),RelCs P n0 β σ s w cs vs→RelCs P n0 β σ s w (cs.drop n) (vs.drop n)
 | cs,vs,0,h=>h
 | [],[],n+1,h=>by simp [RelCs]
 | c::cs,v::vs,n+1,h=>RelCs.drop n h.2
 | [],_::_,_+1,h=>h.elim
 | _::_,[],_+1,h=>h.elim
theorem RelCs.append:∀ {cs cs':List (AC0 E N)} {vs vs':List Value},RelCs P n0 β σ s w cs vs→RelCs P n0 β σ s w cs' vs'→RelCs P n0 β σ s w (cs++cs') (vs++vs')
 | [],_,[],_,_,h=>h
 | c::cs,_,v::vs,_,h,h'=>⟨h.1,RelCs.append h.2 h'⟩
 | [],_,_::_,_,h,_=>h.elim
 | _::_,_,[],_,h,_=>h.elim
theorem C5 {α:Type} {l r:List α} {off n:Nat} (h:FX l off n=some r):r=(l.drop off).take n∧r.length=n:=by
 unfold FX at h;simp only at h
 split at h
 ·rename_i hb;cases h;exact ⟨rfl,AD.1 hb⟩
 ·cases h
theorem BG:∀ {cs:List (AC0 E N)} {n:Nat},n∈AF cs↔∃ c∈cs,n∈c.names
 | [],n=>by simp [AF]
 | c::cs,n=>by simp [AF,BG]
theorem jP {cs:List (AC0 E N)} {n k:Nat} (h:n∈AF (cs.take k)):n∈AF cs:=by
 rw [BG] at *;obtain ⟨c,hc,hn⟩:=h;exact ⟨c,List.mem_of_mem_take hc,hn⟩
theorem kb {cs:List (AC0 E N)} {n k:Nat} (h:n∈AF (cs.drop k)):n∈AF cs:=by
 rw [BG] at *;obtain ⟨c,hc,hn⟩:=h;exact ⟨c,List.mem_of_mem_drop hc,hn⟩
theorem Dx {cs r:List (AC0 E N)} {off k n:Nat} (h:FX cs off k=some r) (hn:n∈AF r):n∈AF cs:=by
 rw [(C5 h).1] at hn;exact kb (jP hn)
theorem Cm {t:TypeId} {ts:List TypeId} (h:AO P t=some ts):P.cellsOf t=ts.length∧0<ts.length:=by
 unfold AO at h
 split at h
 ·split at h
  ·rename_i hb;cases h;simp only [zzj] at hb;exact ⟨(AD.1 hb.1).symm,Bd.1 hb.2⟩
  ·cases h
 ·cases h
theorem Fb {t:TypeId} (h:0<P.cellsOf t):∃ i,P.info? t=some i:=by
 unfold Program.cellsOf at h;cases hi:P.info? t with
 | none=>simp [hi] at h
 | some i=>exact ⟨i,rfl⟩
theorem CG {t:TypeId} {d:TypeDesc} (h:P.underlying t=some d):∃ i,P.info? t=some i:=by
 unfold Program.underlying at h;cases hi:P.info? t with
 | none=>simp [hi] at h
 | some i=>exact ⟨i,rfl⟩
theorem BZ {t:TypeId} {i:TypeInfo} (h:P.info? t=some i):(sizeOf t).run P w=.ok (P.cellsOf t) w:=by
 simp [sizeOf,typeInfo,h,Program.cellsOf]
theorem Fz {t:TypeId} {d:TypeDesc} (h:P.underlying t=some d):(isAgg t).run P w=.ok (AW P t) w:=by
 unfold isAgg AW;simp only [Sem.run_bind,run_underlying h,Result.andThen_ok,h];cases d<;>rfl
theorem Ep {t e:TypeId}:AJ P t=.sl e↔P.underlying t=some (.slice e):=by
 unfold AJ;constructor
 ·intro h;split at h<;>simp_all
 ·intro h;rw [h]
theorem Zm {t e:TypeId} (h:X4 P t=some e):P.underlying t=some (.slice e):=by
 unfold X4 at h
 split at h
 ·rename_i hu;cases h;exact hu
 ·cases h
theorem aA {t:TypeId} {k:IntKind} (h:AJ P t=.int k):P.underlying t=some (.int k):=by
 unfold AJ at h;split at h<;>simp_all
theorem qG {t:TypeId} (h:AJ P t=.bool):P.underlying t=some .bool:=by
 unfold AJ at h;split at h<;>simp_all
theorem Z5 {t:TypeId} (h:AJ P t=.str):P.underlying t=some .string:=by
 unfold AJ at h;split at h<;>simp_all
theorem uG {St:Nat→Prop} {t:TypeId} {v:Value} {p:PV} {k:IntKind} (h:Rep P w St t v p) (hk:AJ P t=.int k):v=.int k (pvI p):=by
 cases h<;>simp_all
theorem ry {St:Nat→Prop} {t:TypeId} {v:Value} {p:PV} (h:Rep P w St t v p) (hk:AJ P t=.bool):v=.bool (pvB p):=by
 cases h<;>simp_all
theorem uQ {St:Nat→Prop} {t:TypeId} {v:Value} {p:PV} (h:Rep P w St t v p) (hk:AJ P t=.str):v=.string (pvS p):=by
 cases h<;>simp_all
theorem vO {St:Nat→Prop} {t e:TypeId} {v:Value} {p:PV} (h:Rep P w St t v p) (hk:AJ P t=.sl e):Rep P w St t v (.rows (pvL p)):=by
 cases h with
 | int h=>simp_all
 | bool h=>simp_all
 | str h=>simp_all
 | sl v h hts hl hr hc hm hv=>exact .sl v h hts hl hr hc hm hv
theorem Rs {nw : Bool} {l : Rows} {i : Int} (vs : Nat → Value) : ∀ {j : Nat} {ts : List TypeId} {cs : List (AC0 E N)}, OZ P nw l i j ts = some cs →
    (∀ q t',ts[q]?=some t'→Rep P w (StB n0 β σ s nw) t' (vs (j+q)) (AB l i.toNat (j+q))) →
    RelCs P n0 β σ s w cs ((List.range ts.length).map fun q=>vs (j+q))∧AF cs=[]
  | j,[],cs,h,_=>by simp only [OZ] at h;cases h;exact ⟨trivial,rfl⟩
  | j,t::ts,cs,h,hv=>by
    simp only [OZ] at h
    split at h
    · cases h
    · rename_i r hr;obtain ⟨ih,ihn⟩:=Rs vs hr (fun q t' hq=>by
        have:=hv (q+1) t' (by simpa using hq)
        rwa [show j+(q+1)=j+1+q by omega] at this)
      have h0:=hv 0 t (by simp);simp only [Nat.add_zero] at h0;have hl:((List.range (t::ts).length).map fun q=>vs (j+q))=vs j::(List.range ts.length).map fun q=>vs (j+1+q):=by
        simp only [List.length_cons,List.range_succ_eq_map,List.map_cons,Nat.add_zero,List.map_map];congr 1;apply List.map_congr_left;intro q _;simp [Nat.add_assoc,Nat.add_comm 1 q]
      rw [hl]
      split at h
      · rename_i k hk;cases h;exact ⟨⟨uG h0 hk,ih⟩,by simp [AF,AC.names,ihn]⟩
      · rename_i hk;cases h;exact ⟨⟨ry h0 hk,ih⟩,by simp [AF,AC.names,ihn]⟩
      · rename_i hk;cases h;exact ⟨⟨uQ h0 hk,ih⟩,by simp [AF,AC.names,ihn]⟩
      · rename_i e hk;cases h;exact ⟨⟨⟨t,hk,vO h0 hk⟩,ih⟩,by simp [AF,AC.names,ihn]⟩
      · cases h
theorem Ut {e t:TypeId} {off:Nat} {ts:List TypeId} (h:Tm P e off t=some ts):∃ le,AO P e=some le∧AO P t=some ts∧(le.drop off).take ts.length=ts:=by
 unfold Tm at h
 split at h
 ·rename_i l r hl hr
  split at h
  ·rename_i hb;cases h;exact ⟨l,hl,hr,H8.1 hb⟩
  ·cases h
 ·cases h
theorem getElem?_of_sub {α:Type} {le ts:List α} {off:Nat} (h:(le.drop off).take ts.length=ts) {q:Nat} {t:α} (hq:ts[q]?=some t):le[off+q]?=some t:=by
 have hlt:q<ts.length:=(List.getElem?_eq_some_iff.1 hq).1;rw [← h,List.getElem?_take,if_pos hlt,List.getElem?_drop] at hq;exact hq
theorem cell_of_heap {blk off:Nat} {cells:Array Value} {el:TypeId} {fr:Nat×Nat} (h:w.heap[blk]?=some (.cells cells el fr)):w.cell? ⟨blk,off,none⟩=cells[off]?:=by
 simp [World.cell?,h]
theorem Hm (blk off j:Nat):(⟨blk,off,none⟩:Addr).add j=⟨blk,off+j,none⟩:=by unfold Addr.add;split<;>simp_all
theorem MR {T:TypeId} {n:Nat} (h:Oa P T n=true):(∃ d,P.underlying T=some d)∧(AW P T=true∨n=1):=by
 unfold Oa at h;simp only [zzj,Bool.or_eq_true] at h;exact ⟨Option.isSome_iff_exists.1 h.1,h.2.imp id AD.1⟩
theorem QC {T : TypeId} {blk off : Nat} {cs : List (AC0 E N)} {vs : List Value} (hr : RelCs P n0 β σ s w cs vs) (hag : Oa P T cs.length = true)
    (hn:vs.length=P.cellsOf T) (h:∀ j v,vs[j]?=some v→w.cell? ⟨blk,off+j,none⟩=some v) :
    ∃ x,(loadVar T ⟨blk,off,none⟩).run P w=.ok x w∧RelVal P n0 β σ s w { agg:=AW P T,cs } x:=by
  obtain ⟨⟨d,hu⟩,hag⟩:=MR hag;obtain ⟨i,hi⟩:=CG hu;cases hb:AW P T with
  | true =>
    have hl:=run_loadCells_list (P:=P) w ⟨blk,off,none⟩ vs (fun j v hj=>by rw [Hm];exact h j v hj);rw [hn] at hl;exact ⟨.agg vs.toArray,by simp [loadVar,Fz hu,hb,BZ hi,hl],by simpa [Value.cells] using hr,_,rfl⟩
  | false =>
    have h1:vs.length=1:=by
      rcases hag with h | h
      · rw [hb] at h;cases h
      · rw [← RelCs.length hr];exact h
    match vs,h1 with
    | [v],_ =>
      have hc:=h 0 v rfl;simp only [Nat.add_zero] at hc;have ho:=RelCs.one hr v (by simp);exact ⟨v,by simp [loadVar,Fz hu,hb,run_load,hc],by rw [BT ho];exact hr,ho⟩
theorem tI {nw nw':Bool} {b:Nat} (h:StB n0 β σ s nw b):StB n0 β σ s (nw&&nw') b :=
 ⟨h.1,h.2.mono (fun e=>by simp_all)⟩
theorem rm {nw nw':Bool} {b:Nat} (h:StB n0 β σ s nw' b):StB n0 β σ s (nw&&nw') b :=
 ⟨h.1,h.2.mono (fun e=>by simp_all)⟩
theorem Rep.st {St St':Nat→Prop} {t:TypeId} {v:Value} {p:PV} (h:Rep P w St t v p) (hs:∀ b,St b→St' b):Rep P w St' t v p :=
 h.mono (fun b _ hlt=>⟨rfl,hlt⟩) (fun b hb _=>hs b hb)
theorem mf {b : Bool} {x y c : AC0 E N} {v : Value} (h : cZ (O := std E N) b x y = some c) (ht : b = true → RelC P n0 β σ s w x v) (hf : b = false → RelC P n0 β σ s w y v) :
    RelC P n0 β σ s w c v∧c.names=[]:=by
  unfold cZ at h
  split at h
  · split at h
    · rename_i k i k' j hk;cases h;have:=GJ.1 hk;subst this;cases b
      · exact ⟨hf rfl,rfl⟩
      · exact ⟨ht rfl,rfl⟩
    · cases h
  · cases h;cases b
    · exact ⟨hf rfl,rfl⟩
    · exact ⟨ht rfl,rfl⟩
  · cases h;cases b
    · exact ⟨hf rfl,rfl⟩
    · exact ⟨ht rfl,rfl⟩
  · split at h
    · rename_i e nw l e' nw' l' he;cases h;have:=AD.1 he;subst this;refine ⟨?_,rfl⟩;cases b
      · obtain ⟨t,h1,h2⟩:=hf rfl;exact ⟨t,h1,h2.st fun _=>rm⟩
      · obtain ⟨t,h1,h2⟩:=ht rfl;exact ⟨t,h1,h2.st fun _=>tI⟩
    · cases h
  · cases h
theorem II {b : Bool} : ∀ {xs ys cs : List (AC0 E N)} {vs : List Value}, CM (O := std E N) b xs ys = some cs → (b = true → RelCs P n0 β σ s w xs vs) → (b = false → RelCs P n0 β σ s w ys vs) →
    RelCs P n0 β σ s w cs vs∧AF cs=[]∧cs.length=xs.length
  | [],[],cs,vs,h,ht,hf=>by
    simp only [CM] at h;cases h;cases b
    · exact ⟨hf rfl,rfl,rfl⟩
    · exact ⟨ht rfl,rfl,rfl⟩
  | x::xs,y::ys,cs,vs,h,ht,hf=>by
    simp only [CM] at h
    split at h
    · rename_i c r hc hr;cases h
      match vs with
      | [] => cases b
              · exact (hf rfl).elim
              · exact (ht rfl).elim
      | v::vs =>
        obtain ⟨r1,n1⟩:=mf (P:=P) (n0:=n0) (β:=β) (σ:=σ) (s:=s) (w:=w) (v:=v) hc (fun e=>(ht e).1) (fun e=>(hf e).1);obtain ⟨r2,n2,l2⟩:=II hr (fun e=>(ht e).2) (fun e=>(hf e).2);exact ⟨⟨r1,r2⟩,by simp [AF,n1,n2],by simp [l2]⟩
    · cases h
  | [],_::_,cs,vs,h,_,_=>by simp [CM] at h
  | _::_,[],cs,vs,h,_,_=>by simp [CM] at h
theorem Yf {b:Bool}:∀ {xs ys cs:List (AC0 E N)},CM (O:=std E N) b xs ys=some cs→cs.length=ys.length
 | [],[],cs,h=>by simp only [CM] at h;cases h;rfl
 | x::xs,y::ys,cs,h=>by
  simp only [CM] at h
  split at h
  ·rename_i c r hc hr;cases h;simp [Yf hr]
  ·cases h
 | [],_::_,cs,h=>by simp [CM] at h
 | _::_,[],cs,h=>by simp [CM] at h
theorem Xi {f : Nat → Option (List (AC0 E N))} {i : Int} (vs : Nat → List Value) : ∀ {n : Nat} {r : List (AC0 E N)}, Qe (O := std E N) f i n = some r → 0 ≤ i → i ≤ (n : Int) →
    (∀ k c,k≤n→f k=some c→RelCs P n0 β σ s w c (vs k))→RelCs P n0 β σ s w r (vs i.toNat)
  | 0,r,h,h0,hn,hv=>by
    have:i.toNat=0:=by omega
    rw [this];exact hv 0 r (Nat.le_refl _) h
  | k+1,r,h,h0,hn,hv=>by
    simp only [Qe] at h
    split at h
    · rename_i r1 c hr1 hc;have hcs:=hv (k+1) c (Nat.le_refl _) hc;have key:(i==((k+1:Nat):Int))=false→RelCs P n0 β σ s w r1 (vs i.toNat):=fun hb=>by
        have hne:i≠((k+1:Nat):Int):=by simpa using hb
        exact Xi vs hr1 h0 (by omega) (fun k' c' hk'=>hv k' c' (by omega))
      exact (II (P:=P) (n0:=n0) (β:=β) (σ:=σ) (s:=s) (w:=w) (vs:=vs i.toNat) h
        (fun hb=>by
          have:i=((k+1:Nat):Int):=by simpa using hb
          rw [show i.toNat=k+1 by omega];exact hcs) key).1
    · cases h
theorem K5 {b:Bool}:∀ {xs ys cs:List (AC0 E N)},CM (O:=std E N) b xs ys=some cs→AF cs=[]
 | [],[],cs,h=>by simp only [CM] at h;cases h;rfl
 | x::xs,y::ys,cs,h=>by
  simp only [CM] at h
  split at h
  ·rename_i c r hc hr;cases h;have h1:=K5 hr;have h2:c.names=[]:=by
    unfold cZ at hc
    split at hc
    ·split at hc
     ·cases hc;rfl
     ·cases hc
    ·cases hc;rfl
    ·cases hc;rfl
    ·split at hc
     ·cases hc;rfl
     ·cases hc
    ·cases hc
   simp [AF,h1,h2]
  ·cases h
 | [],_::_,cs,h=>by simp [CM] at h
 | _::_,[],cs,h=>by simp [CM] at h
theorem ZF {f : Nat → Option (List (AC0 E N))} {i : Int} {n : Nat} {r : List (AC0 E N)} (h : Qe (O := std E N) f i n = some r) :
    ∀ m∈AF r,∃ c,f 0=some c∧m∈AF c:=by
  cases n with
  | zero=>exact fun m hm=>⟨r,h,hm⟩
  | succ n =>
    simp only [Qe] at h
    split at h
    · rw [K5 h];simp
    · cases h
theorem Xd {f:Nat→Option (List (AC0 E N))} {i:Int} {k:Nat} (hf:∀ n c,f n=some c→c.length=k):∀ {n:Nat} {r:List (AC0 E N)},Qe (O:=std E N) f i n=some r→r.length=k
 | 0,r,h=>hf 0 r h
 | n+1,r,h=>by
  simp only [Qe] at h
  split at h
  ·rename_i r1 c hr1 hc;rw [Yf h];exact Xd hf hr1
  ·cases h
def uA (P:Program) (n0:Nz) (β:Nat→Option Nat) (σ:Nat→Option (Nat×Nat)) (s:St0 E N) (w:World) (T:TypeId) (v:Value) (cs:List (AC0 E N)):Prop :=
 ∃ blk off vs,v=.pointer (some ⟨blk,off,none⟩)∧vs.length=P.cellsOf T∧RelCs P n0 β σ s w cs vs ∧
  ∀ j x,vs[j]?=some x→w.cell? ⟨blk,off+j,none⟩=some x
theorem XA (m : Mem P n0 β σ s w) {b off : Nat} {e : BEnt (std E N)} {v : Value} (he : s.getB b = some e) (hp : R3 β s b off v) :
    ∃ blk cells el,v=.pointer (some ⟨blk,off,none⟩)∧β b=some blk∧w.heap[blk]?=some (.cells cells el (0,0))∧RelCs P n0 β σ s w e.cs cells.toList:=by
  obtain ⟨blk,rfl,hb⟩:=hp;obtain ⟨blk',cells,el,hb',hh,hr,_⟩:=m.B b e he;have:=hb e he;rw [hb'] at this;cases this;exact ⟨blk,cells,el,rfl,hb',hh,hr⟩
theorem OU {blk : Nat} {cells : Array Value} {el : TypeId} {fr : Nat × Nat} (h : w.heap[blk]? = some (.cells cells el fr)) (off n j : Nat) (x : Value)
    (hj:((cells.toList.drop off).take n)[j]?=some x):w.cell? ⟨blk,off+j,none⟩=some x:=by
  rw [cell_of_heap h];rw [List.getElem?_take] at hj
  split at hj
  · rw [List.getElem?_drop] at hj;simpa using hj
  · cases hj
theorem pP (m : Mem P n0 β σ s w) {T : TypeId} {p : AC0 E N} {v : Value} {cs : List (AC0 E N)} {k k' : Nat} (hp : RelC P n0 β σ s w p v)
    (h:RM.run s (jz P T p) k=.ok (cs,k')):uA P n0 β σ s w T v cs∧∀ n,Fresh a s n→n∉AF cs:=by
  cases p with
  | ptr b off =>
    obtain ⟨k1,h⟩:=zzg h;cases he:s.getB b with
    | none=>rw [he] at h;exact (zzb h).elim
    | some e =>
      rw [he] at h;have hs:=zzh h;obtain ⟨blk,cells,el,rfl,hb,hh,hr⟩:=XA m he hp;obtain ⟨e1,e2⟩:=C5 hs;have hrr:=RelCs.take (P.cellsOf T) (RelCs.drop off hr);rw [← e1] at hrr;exact ⟨⟨blk,off,_,rfl,(RelCs.length hrr).symm.trans e2,hrr,fun j x hj=>OU hh off _ j x hj⟩,
        fun n hn hm=>(hn.b b e he).2 (Dx hs hm)⟩
  | aptr b off n sz i inner =>
    obtain ⟨k1,h⟩:=zzg h;obtain ⟨h0,hlt,hp⟩:=hp;cases he:s.getB b with
    | none=>rw [he] at h;exact (zzb h).elim
    | some e =>
      rw [he] at h;obtain ⟨blk,cells,el,rfl,hb,hh,hr⟩:=XA m he hp;cases n with
      | zero=>exact (zzb h).elim
      | succ n =>
        have hs:=zzh h;obtain ⟨i,rfl⟩:∃ j:Int,j=i:=⟨i,rfl⟩;have h0':(0:Int)≤i:=h0;have hlt':i<((n+1:Nat):Int):=hlt;have key:=Xi (P:=P) (n0:=n0) (β:=β) (σ:=σ) (s:=s) (w:=w) (fun k=>(cells.toList.drop (off+k * sz+inner)).take (P.cellsOf T)) hs h0' (by omega)
          (fun k c hk hc=>by
            have:=RelCs.take (P.cellsOf T) (RelCs.drop (off+k * sz+inner) hr)
            rwa [← (C5 hc).1] at this)
        have hlen:cs.length=P.cellsOf T:=Xd (fun k c hc=>(C5 hc).2) hs;refine ⟨⟨blk,_,_,rfl,(RelCs.length key).symm.trans hlen,key,fun j x hj=>OU hh _ _ j x hj⟩,fun m hm hx=>?_⟩;obtain ⟨c,hc,hmc⟩:=ZF hs m hx;exact (hm.b b e he).2 (Dx hc hmc)
  | eptr id i off =>
    obtain ⟨k1,h⟩:=zzf h;obtain ⟨h0,blk,o,rfl,hk⟩:=hp;cases he:s.getH id with
    | none=>rw [he] at h;exact (zzb h).elim
    | some e =>
      rw [he] at h;simp only at h
      split at h
      · rename_i ts hf;have hs:=zzh h;obtain ⟨hi,ts',cap,hts',hsg,hcp,rfl⟩:=hk e he
        rcases m.H id e he with ⟨t,le,ht,hle,hrl,hm⟩ | hM
        case inr=>exact (hM.noCap hsg hcp.1).elim
        rw [hle] at hts';cases hts';obtain ⟨le',hle',hT,hsub⟩:=Ut hf;rw [hle] at hle';cases hle'
        rcases hm with ⟨hn,_⟩ | ⟨blk',cap',cells,el,hsg',hh,hel,hsz,hcap,hnw,v,hv,hrep⟩
        · rw [hn] at hsg;cases hsg
        · rw [hsg'] at hsg;cases hsg;obtain ⟨i,rfl⟩:∃ j:Int,j=i:=⟨i,rfl⟩;have hin:i.toNat<List.length e.l:=by
            have h0':(0:Int)≤i:=h0;have hi':i<((List.length e.l:Nat):Int):=hi;omega
          obtain ⟨hr,hnm⟩:=Rs (P:=P) (n0:=n0) (β:=β) (σ:=σ) (s:=s) (w:=w) (fun q=>v i.toNat q) hs (fun q t' hq=>hrep i.toNat (off+q) t' hin (getElem?_of_sub hsub hq));have hlen:ts.length=P.cellsOf T:=(Cm hT).1.symm;refine ⟨⟨blk,_,_,rfl,by simpa using hlen,hr,fun j x hj=>?_⟩,fun m _=>by rw [hnm];simp⟩;simp only [List.getElem?_map,zzo] at hj;obtain ⟨q,hq,rfl⟩:=hj;obtain ⟨hqlt,rfl⟩:=List.getElem?_eq_some_iff.1 hq;simp only [List.length_range] at hqlt;simp only [List.getElem_range];rw [cell_of_heap hh,Nat.add_assoc];have hb:=(List.getElem?_eq_some_iff.1 (getElem?_of_sub hsub (zzn hqlt))).1;exact hv i.toNat (off+j) hin hb
      · exact (zzb h).elim
  | iptr e nw l i off =>
    simp only [jz] at h
    split at h
    · rename_i ts hf;have hs:=zzh h;obtain ⟨h0,hi,t,le,blk,boff,len,cap,ht,hle,hrep,rfl⟩:=hp;obtain ⟨le',hle',hT,hsub⟩:=Ut hf;rw [hle] at hle';cases hle';obtain ⟨i,rfl⟩:∃ j:Int,j=i:=⟨i,rfl⟩;have h0':(0:Int)≤i:=h0;have hi':i<((List.length l:Nat):Int):=hi;have hin:i.toNat<List.length l:=by omega
      cases hrep with
      | sl v ht' hts hl hr hc hm hv =>
        rw [ht] at ht';cases ht';rw [hle] at hts;cases hts
        rcases hm with hm | ⟨b,o,ha,hb,hlt,hcell⟩
        · rw [← hl] at hm;omega
        · cases ha;have hin':i.toNat<len:=by rw [← hl];exact hin
          obtain ⟨hr,hnm⟩:=Rs (P:=P) (n0:=n0) (β:=β) (σ:=σ) (s:=s) (w:=w) (fun q=>v i.toNat q) hs (fun q t' hq=>hv i.toNat (off+q) t' hin' (getElem?_of_sub hsub hq));have hlen:ts.length=P.cellsOf T:=(Cm hT).1.symm;refine ⟨⟨blk,_,_,rfl,by simpa using hlen,hr,fun j x hj=>?_⟩,fun m _=>by rw [hnm];simp⟩;simp only [List.getElem?_map,zzo] at hj;obtain ⟨q,hq,rfl⟩:=hj;obtain ⟨hqlt,rfl⟩:=List.getElem?_eq_some_iff.1 hq;simp only [List.length_range] at hqlt;simp only [List.getElem_range];have hb:=(List.getElem?_eq_some_iff.1 (getElem?_of_sub hsub (zzn hqlt))).1;have:=hcell i.toNat (off+j) hin' hb;rw [← this];congr 2;omega
    · exact (zzb h).elim
  | int k i=>exact (zzb h).elim
  | bool b=>exact (zzb h).elim
  | str x=>exact (zzb h).elim
  | nil e=>exact (zzb h).elim
  | imm e nw l=>exact (zzb h).elim
  | own e id=>exact (zzb h).elim
  | fn f caps=>exact (zzb h).elim
  | nilptr=>exact (zzb h).elim
  | tail e id i=>exact (zzb h).elim
  | mp e id=>exact (zzb h).elim
  | any T=>exact (zzb h).elim
end
section
variable {E:Env} {N:Nat} {P:Program} {n0:Nz} {nt:Nat} {β:Nat→Option Nat} {σ:Nat→Option (Nat×Nat)} {s:St0 E N} {a:Act} {w:World}
theorem cx {c:AC0 E N} {v:Value} (h:RelC P n0 β σ s w c v):RelVal P n0 β σ s w { agg:=false,cs:=[c] } v :=
 ⟨by rw [BT (RelC.one h)];exact ⟨h,trivial⟩,RelC.one h⟩
theorem Aw {c:AC0 E N} {v:Value} (h:RelC P n0 β σ s w c v):RelAV P n0 β σ s w (one c) v:=cx h
theorem Ea {c:AC0 E N} {v:Value} (h:RelVal P n0 β σ s w { agg:=false,cs:=[c] } v):RelC P n0 β σ s w c v:=by
 obtain ⟨h1,h2⟩:=h;rw [BT h2] at h1;exact h1.1
theorem M0 {cs:List (AC0 E N)} {v:Value} (h:RelVal P n0 β σ s w { agg:=true,cs } v):∃ vs,v=.agg vs∧RelCs P n0 β σ s w cs vs.toList:=by
 obtain ⟨h1,vs,rfl⟩:=h;exact ⟨vs,rfl,h1⟩
theorem cJ {n : Nat} {p p' : AC0 E N} {v : Value} (h : DM n p = some p') (hp : RelC P n0 β σ s w p v) :
    ∃ blk o,v=.pointer (some ⟨blk,o,none⟩)∧RelC P n0 β σ s w p' (.pointer (some ⟨blk,o+n,none⟩))∧p'.names=p.names:=by
  cases p with
  | ptr b off =>
    simp only [DM,Option.some.injEq] at h;subst h;obtain ⟨blk,rfl,hb⟩:=hp;exact ⟨blk,off,rfl,⟨blk,rfl,hb⟩,rfl⟩
  | aptr b off m sz i inner =>
    simp only [DM,Option.some.injEq] at h;subst h;obtain ⟨h0,h1,blk,rfl,hb⟩:=hp;exact ⟨blk,_,rfl,⟨h0,h1,blk,by rw [Nat.add_assoc _ inner n],hb⟩,rfl⟩
  | eptr id i off =>
    simp only [DM,Option.some.injEq] at h;subst h;obtain ⟨h0,blk,o,rfl,hk⟩:=hp;refine ⟨blk,o,rfl,⟨h0,blk,o+n,rfl,fun e he=>?_⟩,rfl⟩;obtain ⟨hi,ts,cap,hts,hs,hcp,ho⟩:=hk e he;exact ⟨hi,ts,cap,hts,hs,hcp,by rw [ho,Nat.add_assoc]⟩
  | iptr e nw l i off =>
    simp only [DM,Option.some.injEq] at h;subst h;obtain ⟨h0,h1,t,ts,blk,boff,len,cap,ht,hts,hr,rfl⟩:=hp;exact ⟨blk,_,rfl,⟨h0,h1,t,ts,blk,boff,len,cap,ht,hts,hr,by rw [Nat.add_assoc,Nat.add_assoc]⟩,rfl⟩
  | int k i=>simp [DM] at h
  | bool b=>simp [DM] at h
  | str x=>simp [DM] at h
  | nil e=>simp [DM] at h
  | imm e nw l=>simp [DM] at h
  | own e id=>simp [DM] at h
  | fn f caps=>simp [DM] at h
  | nilptr=>simp [DM] at h
  | tail e id i=>simp [DM] at h
  | mp e id=>simp [DM] at h
  | any T=>simp [DM] at h
theorem XS {T:TypeId} {f:Nat} {fd:Field} (h:Qx P T f=some fd):∃ fs,P.underlying T=some (.struct fs)∧fs[f]?=some fd:=by
 unfold Qx at h
 split at h
 ·rename_i fs hu;exact ⟨fs,hu,by simpa using h⟩
 ·cases h
theorem lj {T : TypeId} {f : Nat} {fd : Field} {blk o : Nat} (h : Qx P T f = some fd) (hs : P.cellsOf fd.type ≠ 0) :
    (Instr.fieldAt T (.pointer (some ⟨blk,o,none⟩)) f).run P w=.ok (.pointer (some ⟨blk,o+fd.offset,none⟩)) w:=by
  obtain ⟨fs,hu,hf⟩:=XS h;obtain ⟨i,hi⟩:=Fb (P:=P) (t:=fd.type) (by omega);simp [Instr.fieldAt,run_underlying hu,hf,Instr.sureAddr,fieldPlace,BZ hi,hs,Hm]
theorem qA {T : TypeId} {f : Nat} {fd : Field} {vs : Array Value} {cs r : List (AC0 E N)} (h : Qx P T f = some fd) (hr : RelCs P n0 β σ s w cs vs.toList)
    (hsl:FX cs fd.offset (P.cellsOf fd.type)=some r) (hag:Oa P fd.type r.length=true) :
    ∃ x,(Instr.field T (.agg vs) f).run P w=.ok x w∧RelVal P n0 β σ s w { agg:=AW P fd.type,cs:=r } x:=by
  obtain ⟨fs,hu,hf⟩:=XS h;obtain ⟨e1,e2⟩:=C5 hsl;obtain ⟨⟨d,hud⟩,hag⟩:=MR hag;obtain ⟨i,hi⟩:=CG hud;have hrr:=RelCs.take (P.cellsOf fd.type) (RelCs.drop fd.offset hr);rw [← e1] at hrr;cases hb:AW P fd.type with
  | true =>
    refine ⟨.agg (vs.extract fd.offset (fd.offset+P.cellsOf fd.type)),by simp [Instr.field,run_underlying hu,hf,part,Fz hud,hb,BZ hi,asAgg],?_,_,rfl⟩;simp only [Value.cells,Array.toList_extract,List.extract_eq_take_drop,Nat.add_sub_cancel_left];exact hrr
  | false =>
    have h1:r.length=1:=by
      rcases hag with h | h
      · rw [hb] at h;cases h
      · exact h
    have hlen:=RelCs.length hrr;rw [h1] at hlen
    match hx:(vs.toList.drop fd.offset).take (P.cellsOf fd.type),hlen with
    | [x],_ =>
      rw [hx] at hrr;have hc:vs[fd.offset]?=some x:=by
        have:((vs.toList.drop fd.offset).take (P.cellsOf fd.type))[0]?=some x:=by rw [hx];rfl
        rw [List.getElem?_take] at this
        split at this
        · rw [List.getElem?_drop] at this;simpa using this
        · cases this
      refine ⟨x,by simp [Instr.field,run_underlying hu,hf,part,Fz hud,hb,asAgg,hc],?_⟩;have ho:=RelCs.one hrr x (by simp);exact ⟨by rw [BT ho];exact hrr,ho⟩
theorem jY {T : TypeId} {off : Nat} {vs : Array Value} {r : List (AC0 E N)} (hr : RelCs P n0 β σ s w r ((vs.toList.drop off).take (P.cellsOf T)))
    (hl:r.length=P.cellsOf T) (hag:Oa P T r.length=true) :
    ∃ x,(part T vs off).run P w=.ok x w∧RelVal P n0 β σ s w { agg:=AW P T,cs:=r } x:=by
  obtain ⟨⟨d,hud⟩,hag⟩:=MR hag;obtain ⟨i,hi⟩:=CG hud;cases hb:AW P T with
  | true =>
    refine ⟨.agg (vs.extract off (off+P.cellsOf T)),by simp [part,Fz hud,hb,BZ hi],?_,_,rfl⟩;simp only [Value.cells,Array.toList_extract,List.extract_eq_take_drop,Nat.add_sub_cancel_left];exact hr
  | false =>
    have h1:r.length=1:=by
      rcases hag with h | h
      · rw [hb] at h;cases h
      · exact h
    have hlen:=RelCs.length hr;rw [h1] at hlen
    match hx:(vs.toList.drop off).take (P.cellsOf T),hlen with
    | [x],_ =>
      rw [hx] at hr;have hc:vs[off]?=some x:=by
        have:((vs.toList.drop off).take (P.cellsOf T))[0]?=some x:=by rw [hx];rfl
        rw [List.getElem?_take] at this
        split at this
        · rw [List.getElem?_drop] at this;simpa using this
        · cases this
      refine ⟨x,by simp [part,Fz hud,hb,hc],?_⟩;have ho:=RelCs.one hr x (by simp);exact ⟨by rw [BT ho];exact hr,ho⟩
theorem Ud {y:Operand} (h:HK y=true):∃ k n,y=.const (.int k n)∧n≠0:=by
 unfold HK at h
 split at h
 ·rename_i k n;exact ⟨k,n,rfl,by simpa using h⟩
 ·cases h
theorem Hw (op:BinOp) (T:TypeId) (x y:Operand) (u v:Value) (h:u.oneCell'=true) (hi:u≠.nilIface):(eqGuard op T x y u v).run P w=.ok () w:=by
 unfold eqGuard;cases op<;>first | rfl | skip
 all_goals
  simp only [Bool.not_true,Bool.false_eq_true,if_false];cases u<;>first | rfl | (simp [Value.oneCell'] at h;done) | (exact (hi rfl).elim)
theorem rU {op : BinOp} {i j : Int} {c : Bool} (h : vD (O := std E N) op i j = some c) (T : TypeId) (k : IntKind) :
    (binOp op T (.int k i) (.int k j)).run P w=.ok (.bool c) w:=by
  cases op<;>first | (cases h;done) | (have h':=Option.some.inj h;subst h';simp [binOp,Op.intCmp,bne,iLt,iLe])
theorem td {t : TypeId} {x y : AC0 E N} {u v : Value} {b : Bool} {d : Nat} (h : eqC (O := std E N) x y = some b) (hx : RelC P n0 β σ s w x u) (hy : RelC P n0 β σ s w y v)
    (kx:Ub (AJ P t) x=true) (ky:Ub (AJ P t) y=true):(Op.equalIn (d+1) t u v).run P w=.ok b w:=by
  unfold eqC at h
  split at h
  · rename_i k i k' j
    split at h
    · rename_i hk;have:=GJ.1 hk;subst this;cases h;have hu:u=.int k i:=hx;have hv:v=.int k j:=hy;subst hu;subst hv;unfold Ub at kx
      split at kx
      · rename_i _ _ kk k2 i2 hlk hc;exact run_equalIn_int w d t k _ i j (aA hlk)
      all_goals (first | (rename_i hc;cases hc;done) | cases kx)
    · cases h
  · rename_i i j;cases h;have hu:u=.bool i:=hx;have hv:v=.bool j:=hy;subst hu;subst hv;unfold Ub at kx
    split at kx
    · rename_i hc;cases hc
    · rename_i hlk hc;exact run_equalIn_bool' w d t i j (qG hlk)
    · rename_i hc;cases hc
    · cases kx
  · rename_i i j;cases h;have hu:u=.string i:=hx;have hv:v=.string j:=hy;subst hu;subst hv;unfold Ub at kx
    split at kx
    · rename_i hc;cases hc
    · rename_i hc;cases hc
    · rename_i hlk hc;exact run_equalIn_string w d t i j (Z5 hlk)
    · cases kx
  · cases h
theorem B3 {a b:Option (List Nat)} (h:Ow a b=true):∃ l,a=some l∧b=some l:=by
 unfold Ow at h
 split at h
 ·rename_i x y;exact ⟨x,rfl,by rw [H8.1 h]⟩
 ·cases h
theorem o9 {x y : AC0 E N} {xs ys : List (AC0 E N)} {b : Bool} (h : JW (O := std E N) (x :: xs) (y :: ys) = some b) :
    ∃ b1 b2,eqC x y=some b1∧JW xs ys=some b2∧b=(b1&&b2):=by
  cases xs with
  | nil =>
    cases ys with
    | nil =>
      simp only [JW] at h;have h2:eqC x y=some b:=h;exact ⟨b,true,h2,rfl,by simp⟩
    | cons y2 ys =>
      simp only [JW] at h
      split at h
      · rename_i a r ha hr;cases hr
      · cases h
  | cons x2 xs =>
    cases ys with
    | nil =>
      simp only [JW] at h
      split at h
      · rename_i a r ha hr;cases hr
      · cases h
    | cons y2 ys =>
      simp only [JW] at h
      split at h
      · rename_i a r ha hr;cases h;exact ⟨a,r,ha,hr,rfl⟩
      · cases h
theorem Tf : ∀ {xs1 ys1 xs2 ys2 : List (AC0 E N)} {b : Bool}, xs1.length = ys1.length → JW (O := std E N) (xs1 ++ xs2) (ys1 ++ ys2) = some b →
    ∃ b1 b2,JW xs1 ys1=some b1∧JW xs2 ys2=some b2∧b=(b1&&b2)
  | [],[],xs2,ys2,b,_,h=>⟨true,b,rfl,h,by simp⟩
  | x::xs1,y::ys1,xs2,ys2,b,hl,h=>by
    obtain ⟨b1,b2,h1,h2,rfl⟩:=o9 h;obtain ⟨b3,b4,h3,h4,rfl⟩:=Tf (by simpa using hl) h2;refine ⟨b1&&b3,b4,?_,h4,by rw [Bool.and_assoc]⟩;cases xs1 with
    | nil =>
      cases ys1 with
      | nil=>cases h3;show eqC x y=some (b1&&true);rw [h1,Bool.and_true]
      | cons=>simp at hl
    | cons x2 xs1 =>
      cases ys1 with
      | nil=>simp at hl
      | cons y2 ys1=>simp only [JW,h1,h3]
  | [],_::_,_,_,_,hl,_=>by simp at hl
  | _::_,[],_,_,_,hl,_=>by simp at hl
theorem Ge:∀ {ts1 ts2:List TypeId} {xs1 xs2:List (AC0 E N)},ts1.length=xs1.length→BV P (ts1++ts2) (xs1++xs2)=true→BV P ts1 xs1=true∧BV P ts2 xs2=true
 | [],ts2,[],xs2,_,h=>⟨rfl,h⟩
 | t::ts1,ts2,x::xs1,xs2,hl,h=>by
  simp only [List.cons_append,BV] at h
  split at h
  ·rename_i hk;obtain ⟨h1,h2⟩:=Ge (by simpa using hl) h;exact ⟨by simp only [BV,hk];exact h1,h2⟩
  ·cases h
 | [],_,_::_,_,hl,_=>by simp at hl
 | _::_,_,[],_,hl,_=>by simp at hl
theorem CK:∀ {ts:List TypeId} {xs:List (AC0 E N)},BV P ts xs=true→ts.length=xs.length
 | [],[],_=>rfl
 | t::ts,x::xs,h=>by
  simp only [BV] at h
  split at h
  ·simp [CK h]
  ·cases h
 | [],_::_,h=>by simp [BV] at h
 | _::_,[],h=>by simp [BV] at h
def I4 (P:Program) (T:TypeId) (vs:List Value):Value:=match AW P T,vs with
 | true,vs=>.agg vs.toArray
 | false,[v]=>v
 | _,_=>undef
theorem SL {T : TypeId} {off : Nat} {vs : Array Value} {d : TypeDesc} (hu : P.underlying T = some d) {l : List Value} (hl : l = (vs.toList.drop off).take (P.cellsOf T))
    (hn:l.length=P.cellsOf T) (hag:AW P T=true∨P.cellsOf T=1):(part T vs off).run P w=.ok (I4 P T l) w:=by
  obtain ⟨i,hi⟩:=CG hu;cases hb:AW P T with
  | true =>
    simp only [part,Sem.run_bind,Fz hu,hb,Result.andThen_ok,if_true,BZ hi,Sem.run_map,Sem.run_pure,I4];congr 2;apply Array.ext';rw [hl];simp [List.extract_eq_take_drop]
  | false =>
    have h1:P.cellsOf T=1:=by rcases hag with h | h;(rw [hb] at h;cases h);exact h
    match l,hn.trans h1 with
    | [x],_ =>
      have hc:vs[off]?=some x:=by
        have:((vs.toList.drop off).take (P.cellsOf T))[0]?=some x:=by rw [← hl];rfl
        rw [List.getElem?_take] at this
        split at this
        · rw [List.getElem?_drop] at this;simpa using this
        · cases this
      simp [part,Fz hu,hb,hc,I4]
theorem aS {n:Nat} {t:TypeId} (h:Uv P n t=true):∃ d ts,P.underlying t=some d∧AO P t=some ts∧(AW P t=true∨ts.length=1):=by
 cases n with
 | zero=>cases h
 | succ n =>
  unfold Uv at h
  split at h
  ·rename_i hu;obtain ⟨l,h1,h2⟩:=B3 h;cases h2;exact ⟨_,_,hu,h1,.inr rfl⟩
  ·rename_i hu;obtain ⟨l,h1,h2⟩:=B3 h;cases h2;exact ⟨_,_,hu,h1,.inr rfl⟩
  ·rename_i hu;obtain ⟨l,h1,h2⟩:=B3 h;cases h2;exact ⟨_,_,hu,h1,.inr rfl⟩
  ·rename_i fs hu;simp only [zzj] at h;obtain ⟨l,h1,h2⟩:=B3 h.2;exact ⟨_,_,hu,h1,.inl (by unfold AW;rw [hu])⟩
  ·rename_i k e hu;simp only [zzj] at h;obtain ⟨l,h1,h2⟩:=B3 h.2;exact ⟨_,_,hu,h1,.inl (by unfold AW;rw [hu])⟩
  ·cases h
theorem RelCs.split {xs:List (AC0 E N)} {vs:List Value} (n:Nat) (h:RelCs P n0 β σ s w xs vs):RelCs P n0 β σ s w (xs.take n) (vs.take n)∧RelCs P n0 β σ s w (xs.drop n) (vs.drop n) :=
 ⟨RelCs.take n h,RelCs.drop n h⟩
theorem TI : ∀ (n d : Nat) (T : TypeId) (ts : List TypeId) (xs ys : List (AC0 E N)) (vs us : List Value) (b : Bool), n ≤ d → Uv P n T = true → AO P T = some ts →
    RelCs P n0 β σ s w xs vs→RelCs P n0 β σ s w ys us→BV P ts xs=true→BV P ts ys=true→JW (O:=std E N) xs ys=some b →
    (Op.equalIn d T (I4 P T vs) (I4 P T us)).run P w=.ok b w
  | 0,d,T,ts,xs,ys,vs,us,b,hd,h,_,_,_,_,_,_=>by cases h
  | n+1,d,T,ts,xs,ys,vs,us,b,hd,h,hts,hx,hy,kx,ky,he=>by
    obtain ⟨d,rfl⟩:∃ d',d=d'+1:=⟨d - 1,by omega⟩;have lx:=(CK kx).trans (RelCs.length hx);have ly:=(CK ky).trans (RelCs.length hy);have base:∀ (hb:AW P T=false) (h1:AO P T=some [T]),(Op.equalIn (d+1) T (I4 P T vs) (I4 P T us)).run P w=.ok b w:=by
      intro hb h1;rw [hts] at h1;cases h1
      match xs,ys,vs,us,lx,ly,CK kx,CK ky with
      | [x],[y],[v],[u],_,_,_,_ =>
        simp only [I4,hb];simp only [JW] at he;refine td he hx.1 hy.1 (t:=T) ?_ ?_
        · simp only [BV] at kx;split at kx<;>first | assumption | cases kx
        · simp only [BV] at ky;split at ky<;>first | assumption | cases ky
    unfold Uv at h
    split at h
    · rename_i hu;obtain ⟨l,h1,h2⟩:=B3 h;cases h2;exact base (by unfold AW;rw [hu]) h1
    · rename_i hu;obtain ⟨l,h1,h2⟩:=B3 h;cases h2;exact base (by unfold AW;rw [hu]) h1
    · rename_i hu;obtain ⟨l,h1,h2⟩:=B3 h;cases h2;exact base (by unfold AW;rw [hu]) h1
    · rename_i fs hu;simp only [zzj,Bool.not_eq_true'] at h;obtain ⟨⟨⟨hst,hfa⟩,hall⟩,hcat⟩:=h;obtain ⟨l,h1,h2⟩:=B3 hcat;rw [hts] at h1;cases h1;have hag:AW P T=true:=by unfold AW;rw [hu]
      have hfo:P.fieldsOf T=fs:=by unfold Program.fieldsOf;rw [hu]
      simp only [I4,hag];rw [run_equalIn_struct w d T _ _ (by rw [hfo];exact hu) hst,hfo];have key : ∀ (fl : List Field) (off : Nat) (tl : List TypeId) (xs ys : List (AC0 E N)) (b : Bool), VA P off fl = true → (fl.all fun f => Uv P n f.type) = true →
          Mc (fl.map fun f=>AO P f.type)=some tl→RelCs P n0 β σ s w xs (vs.drop off)→RelCs P n0 β σ s w ys (us.drop off)→BV P tl xs=true→BV P tl ys=true →
          JW (O:=std E N) xs ys=some b→(Op.eqFields d vs.toArray us.toArray fl).run P w=.ok b w:=by
        intro fl
        induction fl with
        | nil =>
          intro off tl xs ys b _ _ hc _ _ kx ky he;simp only [List.map_nil,Mc] at hc;cases hc;cases xs with
          | cons=>simp [BV] at kx
          | nil =>
            cases ys with
            | cons=>simp [BV] at ky
            | nil=>cases he;simp [Op.eqFields]
        | cons f fl ih =>
          intro off tl xs ys b hfa hall hc hx hy kx ky he;simp only [VA] at hfa
          split at hfa
          · rename_i hfo;simp only [zzj,bne_iff_ne,ne_eq] at hfo;have hoff:=AD.1 hfo.1;simp only [List.all_cons,zzj] at hall;simp only [List.map_cons] at hc;cases heq:AO P f.type with
            | none=>rw [heq] at hc;simp [Mc] at hc
            | some t1 =>
              rw [heq] at hc;simp only [Mc] at hc
              split at hc
              · rename_i t2 ht2;cases hc;obtain ⟨hsz,hpos⟩:=Cm heq;obtain ⟨dd,ts',hdu,hts',hagg⟩:=aS hall.1;rw [heq] at hts';cases hts';have kxl:=CK kx;have kyl:=CK ky;simp only [List.length_append] at kxl kyl;have ex:xs=xs.take t1.length++xs.drop t1.length:=(List.take_append_drop _ _).symm;have ey:ys=ys.take t1.length++ys.drop t1.length:=(List.take_append_drop _ _).symm;rw [ex] at kx;rw [ey] at ky;rw [ex,ey] at he;obtain ⟨kx1,kx2⟩:=Ge (by simp;omega) kx;obtain ⟨ky1,ky2⟩:=Ge (by simp;omega) ky;obtain ⟨b1,b2,e1,e2,rfl⟩:=Tf (by simp;omega) he;obtain ⟨rx1,rx2⟩:=RelCs.split t1.length hx;obtain ⟨ry1,ry2⟩:=RelCs.split t1.length hy;have p1:=SL (P:=P) (w:=w) (T:=f.type) (off:=f.offset) (vs:=vs.toArray) hdu (l:=(vs.drop off).take t1.length) (by rw [hoff,hsz]) (by rw [hsz,← RelCs.length rx1];simp;omega) (by rw [hsz];exact hagg);have p2:=SL (P:=P) (w:=w) (T:=f.type) (off:=f.offset) (vs:=us.toArray) hdu (l:=(us.drop off).take t1.length) (by rw [hoff,hsz]) (by rw [hsz,← RelCs.length ry1];simp;omega) (by rw [hsz];exact hagg);have p3:=TI n d f.type t1 _ _ _ _ b1 (by omega) hall.1 heq rx1 ry1 kx1 ky1 e1;rw [List.drop_drop] at rx2 ry2;have p4:=ih (off+P.cellsOf f.type) t2 _ _ b2 hfa hall.2 ht2 (by rw [hsz];exact rx2) (by rw [hsz];exact ry2) kx2 ky2 e2;simp only [Op.eqFields,ne_eq,hfo.2,not_false_eq_true,if_true,Sem.run_bind,p1,p2,p3,Result.andThen_ok];cases b1
                · simp
                · simpa using p4
              · cases hc
          · cases hfa
      have:=key fs.toList 0 ts xs ys b hfa hall h2 (by simpa using hx) (by simpa using hy) kx ky he;exact this
    · rename_i k e hu;simp only [zzj] at h;obtain ⟨hek,hcat⟩:=h;obtain ⟨l,h1,h2⟩:=B3 hcat;rw [hts] at h1;cases h1;have hag:AW P T=true:=by unfold AW;rw [hu]
      obtain ⟨dd,te,hdu,hte,hagg⟩:=aS hek;obtain ⟨hsz,hpos⟩:=Cm hte;obtain ⟨i,hi⟩:=CG hdu;simp only [I4,hag];rw [run_equalIn_array w d _ _ hu hi,List.range_eq_range'];rw [hte] at h2;simp only [Option.map_some,Option.some.injEq] at h2;have key : ∀ (k q : Nat) (xs ys : List (AC0 E N)) (b : Bool), RelCs P n0 β σ s w xs (vs.drop (q * te.length)) → RelCs P n0 β σ s w ys (us.drop (q * te.length)) →
          BV P (Dr k te) xs=true→BV P (Dr k te) ys=true→JW (O:=std E N) xs ys=some b →
          (Op.eqItems d e (P.cellsOf e) vs.toArray us.toArray (List.range' q k)).run P w=.ok b w:=by
        intro k
        induction k with
        | zero =>
          intro q xs ys b _ _ kx ky he;simp only [Dr] at kx ky;cases xs with
          | cons=>simp [BV] at kx
          | nil =>
            cases ys with
            | cons=>simp [BV] at ky
            | nil=>cases he;simp [Op.eqItems]
        | succ k ih =>
          intro q xs ys b hx hy kx ky he;simp only [Dr] at kx ky;have kxl:=CK kx;have kyl:=CK ky;simp only [List.length_append] at kxl kyl;have ex:xs=xs.take te.length++xs.drop te.length:=(List.take_append_drop _ _).symm;have ey:ys=ys.take te.length++ys.drop te.length:=(List.take_append_drop _ _).symm;rw [ex] at kx;rw [ey] at ky;rw [ex,ey] at he;obtain ⟨kx1,kx2⟩:=Ge (by simp;omega) kx;obtain ⟨ky1,ky2⟩:=Ge (by simp;omega) ky;obtain ⟨b1,b2,e1,e2,rfl⟩:=Tf (by simp;omega) he;obtain ⟨rx1,rx2⟩:=RelCs.split te.length hx;obtain ⟨ry1,ry2⟩:=RelCs.split te.length hy;have p1:=SL (P:=P) (w:=w) (T:=e) (off:=q * P.cellsOf e) (vs:=vs.toArray) hdu (l:=(vs.drop (q * te.length)).take te.length) (by rw [hsz]) (by rw [hsz,← RelCs.length rx1];simp;omega) (by rw [hsz];exact hagg);have p2:=SL (P:=P) (w:=w) (T:=e) (off:=q * P.cellsOf e) (vs:=us.toArray) hdu (l:=(us.drop (q * te.length)).take te.length) (by rw [hsz]) (by rw [hsz,← RelCs.length ry1];simp;omega) (by rw [hsz];exact hagg);have p3:=TI n d e te _ _ _ _ b1 (by omega) hek hte rx1 ry1 kx1 ky1 e1;rw [List.drop_drop] at rx2 ry2;have hq:q * te.length+te.length=(q+1) * te.length:=by rw [Nat.add_mul,Nat.one_mul]
          rw [hq] at rx2 ry2;have p4:=ih (q+1) _ _ b2 rx2 ry2 kx2 ky2 e2;simp only [List.range'_succ,Op.eqItems,Sem.run_bind,p1,p2,p3,Result.andThen_ok];cases b1
          · simp
          · simpa using p4
      rw [← h2] at kx ky;exact key k 0 xs ys b (by simpa using hx) (by simpa using hy) kx ky he
    · cases h
end
section
variable {E:Env} {N:Nat} {P:Program} {n0:Nz} {nt:Nat} {β:Nat→Option Nat} {σ:Nat→Option (Nat×Nat)} {s:St0 E N} {a:Act} {w:World}
theorem E3 {α:Type}:∀ {l:List α} {off:Nat} {r l':List α},Ct l off r=some l'→l'=l.take off++r++l.drop (off+r.length)∧(r=[]∨off+r.length≤l.length)
 | l,off,[],l',h=>by simp only [Ct] at h;cases h;simp
 | [],off,y::ys,l',h=>by simp [Ct] at h
 | x::l,0,y::ys,l',h=>by
  simp only [Ct,zzo] at h;obtain ⟨m,hm,rfl⟩:=h;obtain ⟨h1,h2⟩:=E3 hm;refine ⟨by rw [h1];simp [Nat.add_comm],.inr ?_⟩
  rcases h2 with rfl | h2
  ·simp
  ·simp at h2 ⊢;omega
 | x::l,n+1,y::ys,l',h=>by
  simp only [Ct,zzo] at h;obtain ⟨m,hm,rfl⟩:=h;obtain ⟨h1,h2⟩:=E3 hm;refine ⟨by rw [h1];simp only [List.take_succ_cons,List.cons_append,List.length_cons,List.cons.injEq,true_and];rw [show n+1+(ys.length+1)=n+(ys.length+1)+1 by omega,List.drop_succ_cons],.inr ?_⟩
  rcases h2 with h2 | h2
  ·cases h2
  ·simp at h2 ⊢;omega
theorem K2 {cs r cs' : List (AC0 E N)} {off : Nat} {vs us : List Value} (h : Ct cs off r = some cs') (hc : RelCs P n0 β σ s w cs vs) (hr : RelCs P n0 β σ s w r us) :
    RelCs P n0 β σ s w cs' (vs.take off++us++vs.drop (off+us.length)):=by
  obtain ⟨rfl,_⟩:=E3 h;have hl:=RelCs.length hr;refine RelCs.append (RelCs.append (RelCs.take off hc) hr) ?_;rw [hl];exact RelCs.drop _ hc
theorem cN {cs r cs':List (AC0 E N)} {off n:Nat} (h:Ct cs off r=some cs') (hn:n∈AF cs'):n∈AF cs∨n∈AF r:=by
 obtain ⟨rfl,_⟩:=E3 h;rw [BG] at hn;obtain ⟨c,hc,hm⟩:=hn;rw [List.mem_append,List.mem_append] at hc
 rcases hc with (hc | hc) | hc
 ·exact .inl (BG.2 ⟨c,List.mem_of_mem_take hc,hm⟩)
 ·exact .inr (BG.2 ⟨c,hc,hm⟩)
 ·exact .inl (BG.2 ⟨c,List.mem_of_mem_drop hc,hm⟩)
theorem js {α : Type} (l : List α) (k : Nat) (v : α) (rest : List α) (h : k + (rest.length + 1) ≤ l.length) :
    (l.set k v).take (k+1)++rest++(l.set k v).drop (k+1+rest.length)=l.take k++(v::rest)++l.drop (k+(rest.length+1)):=by
  have h1:(l.set k v).take (k+1)=l.take k++[v]:=by
    apply List.ext_getElem?;intro j;simp only [List.getElem?_take,List.getElem?_set,List.getElem?_append,List.length_take]
    by_cases hj:j<k
    · have:¬ k=j:=by omega
      simp [hj,this,show j<k+1 by omega,show j<min k l.length by omega]
    · by_cases hjk:j=k
      · subst hjk;have:j<l.length:=by omega
        simp [this,show ¬ j<min j l.length by omega,show j - min j l.length=0 by omega]
      · have h2:¬ j<k+1:=by omega
        have h3:min k l.length=k:=by omega
        simp [h2,h3,hj];omega
  have h2:(l.set k v).drop (k+1+rest.length)=l.drop (k+(rest.length+1)):=by
    apply List.ext_getElem?;intro j;simp only [List.getElem?_drop,List.getElem?_set];have:¬ k=k+1+rest.length+j:=by omega
    simp [this];congr 1;omega
  rw [h1,h2];simp
theorem fa (off : Nat) : ∀ (xs : List Value) (k : Nat) (cs : Array Value), off + k + xs.length ≤ cs.size →
    ((xs.zipIdx k).foldl (fun cs (x:Value×Nat)=>cs.setIfInBounds (off+x.2) x.1) cs).toList=cs.toList.take (off+k)++xs++cs.toList.drop (off+k+xs.length)
  | [],k,cs,h=>by simp
  | x::xs,k,cs,h=>by
    simp only [List.zipIdx_cons,List.foldl_cons];rw [fa off xs (k+1) _ (by simp at h ⊢;omega)];simp only [Array.toList_setIfInBounds];have:=js cs.toList (off+k) x xs (by simp at h ⊢;omega);simpa [Nat.add_assoc] using this
theorem nI (off : Nat) (v cells : Array Value) (h : off + v.size ≤ cells.size) :
    (v.zipIdx.foldl (fun cs (x:Value×Nat)=>cs.setIfInBounds (off+x.2) x.1) cells).toList=cells.toList.take off++v.toList++cells.toList.drop (off+v.size):=by
  rw [← Array.foldl_toList];have:=fa off v.toList 0 cells (by simpa using h);simpa [Array.toList_zipIdx] using this
theorem VF (hs : Sim P n0 nt β σ s a w) {ctx : List (Nat × Bool)} (hf : Facts a ctx) {place : Nat → Option (Nat × TypeId)} {place' : Nat → Option (Nat × Nat)}
    (hpl:∀ i off T,place i=some (off,T)→place' i=some (off,P.cellsOf T)):∀ {parts:List (Nat×Operand)} {cs cs':List (AC0 E N)} {cells:Array Value} {m m':Nat},
    RM.run s (X9 P place ctx parts cs) m=.ok (cs',m')→RelCs P n0 β σ s w cs cells.toList →
    ∃ cells',Instr.fill place' cells (parts.map fun (i,x)=>(i,a.eval x))=some cells'∧RelCs P n0 β σ s w cs' cells'.toList∧cs'.length=cs.length ∧
      ∀ n,Fresh a s n→n∉AF cs→n∉AF cs'
  | [],cs,cs',cells,m,m',h,hr=>by cases zzc h;exact ⟨cells,rfl,hr,rfl,fun n _ h=>h⟩
  | (i,x)::parts,cs,cs',cells,m,m',h,hr=>by
    simp only [X9] at h
    split at h
    · exact (zzb h).elim
    · rename_i off T hp;obtain ⟨v,m1,h1,h2⟩:=zza h;obtain ⟨u,m2,h3,h4⟩:=zza h2;have hg:=zzd h3;simp only [zzj] at hg;have hsz:=AD.1 hg.1;have hpos:=Bd.1 hg.2;obtain ⟨hv,hn⟩:=KY hs hf h1
      split at h4
      · rename_i cs2 hcs2;have hlen:=RelCs.length hv.1;have hvs:(a.eval x).cells.size=P.cellsOf T:=by rw [← hsz,hlen];simp
        obtain ⟨e1,e2⟩:=E3 hcs2;have hcl:=RelCs.length hr;have hrr:=K2 hcs2 hr hv.1;simp only [List.map_cons,Instr.fill,hpl i off T hp,hvs]
        by_cases hfit:off+P.cellsOf T≤cells.size
        · have hne:¬ (P.cellsOf T≠P.cellsOf T∨off+P.cellsOf T > cells.size):=by omega
          have hfc:=nI off (a.eval x).cells cells (by omega);have hrr':RelCs P n0 β σ s w cs2 ((a.eval x).cells.zipIdx.foldl (fun cs (x:Value×Nat)=>cs.setIfInBounds (off+x.2) x.1) cells).toList:=by
            rw [hfc];simpa using hrr
          obtain ⟨cells',f1,f2,f3,f4⟩:=VF hs hf hpl h4 hrr';refine ⟨cells',?_,f2,?_,fun n hf hc=>f4 n hf (fun hx=>(cN hcs2 hx).elim hc (hn n hf))⟩
          · simpa [hfit,Nat.not_lt.2 hfit] using f1
          · rw [f3,e1];simp;have:v.cs.length=P.cellsOf T:=hsz;have:cells.toList.length=cells.size:=by simp
            omega
        · exfalso
          rcases e2 with h0 | h0
          · rw [h0] at hpos;simp at hpos
          · have:cells.toList.length=cells.size:=by simp
            omega
      · exact (zzb h4).elim
theorem MY {T : TypeId} {z : Val (std E N)} (h : Qn P T = some z) : ∃ i v, P.info? T = some i ∧ i.zero = some v ∧ (zeroValue T).run P w = .ok v w ∧
    RelVal P n0 β σ s w z v∧AF z.cs=[]∧∀ u∈v.cells.toList,u.oneCell'=true:=by
  unfold Qn at h
  split at h
  · rename_i i hi
    split at h
    · rename_i v hv;obtain ⟨r,n,o⟩:=bZ (n0:=n0) (β:=β) (σ:=σ) (s:=s) (w:=w) h;exact ⟨i,v,hi,hv,by simp [zeroValue,typeInfo,hi,hv],r,n,o⟩
    · cases h
  · cases h
theorem Au {op : BinOp} {T : TypeId} {x y : Operand} {u v r : Value} (h1 : (eqGuard op T x y u v).run P w = .ok () w) (h2 : (binOp op T u v).run P w = .ok r w) :
    (do eqGuard op T x y u v;binOp op T u v:Sem Value).run P w=.ok r w:=by
  simp only [Sem.run_bind,h1,Result.andThen_ok,h2]
theorem qp {op : BinOp} {T yT : TypeId} {x y : Operand} {p q : Val (std E N)} {u v : Value} {as : List Bool} {r : AV (std E N)} {fr : List (Nat × Option (HEnt (std E N)))} {m m' : Nat}
    (hp:RelVal P n0 β σ s w p u) (hq:RelVal P n0 β σ s w q v) (hy:∀ k n,y=.const (.int k n)→v=.int k n)
    (h:RM.run s (np P op T y p q) m=.ok ((as,r,fr),m')) (has:∀ b∈as,b=true) :
    ∃ z,(do eqGuard op T x y u v;binOp op T u v:Sem Value).run P w=.ok z w∧RelAV P n0 β σ s w r z∧r.names=[]∧fr=[]:=by
  obtain ⟨pa,pc⟩:=p;obtain ⟨qa,qc⟩:=q;unfold np at h;simp only at h
  split at h
  ·
    rename_i k i k' j;have hu:u=.int k i:=Ea hp;have hv:v=.int k' j:=Ea hq
    split at h
    · exact (zzb h).elim
    · rename_i hk;have:=GJ.1 hk;subst this;subst hu;subst hv;have hg:∀ op,(eqGuard op T x y (.int k i) (.int k j)).run P w=.ok () w:=fun op=>Hw op T x y _ _ rfl (by simp)
      split at h
      · cases zzc h;exact ⟨_,Au (hg _) (by simp [binOp,Op.intArith]),Aw rfl,rfl,rfl⟩
      · cases zzc h;exact ⟨_,Au (hg _) (by simp [binOp,Op.intArith]),Aw rfl,rfl,rfl⟩
      · cases zzc h;exact ⟨_,Au (hg _) (by simp [binOp,Op.intArith]),Aw rfl,rfl,rfl⟩
      · have hj : (j : Int) ≠ 0 := by
          cases hn:HK y with
          | true=>obtain ⟨k2,n2,rfl,hn2⟩:=Ud hn;have:=hy _ _ rfl;cases this;exact hn2
          | false =>
            rw [hn] at h;cases zzc h;have:=has _ (List.mem_singleton.2 rfl);have h2:(!((j:Int)==(0:Int)))=true:=this;intro h0;rw [h0] at h2;simp at h2
        have hz:(binOp .quo T (.int k i) (.int k j)).run P w=.ok (.int k (k.wrap (Int.tdiv i j))) w:=by simp [binOp,Op.intDiv,hj]
        cases hn:HK y with
        | true=>rw [hn] at h;cases zzc h;exact ⟨_,Au (hg _) hz,Aw rfl,rfl,rfl⟩
        | false=>rw [hn] at h;cases zzc h;exact ⟨_,Au (hg _) hz,Aw rfl,rfl,rfl⟩
      · have hj : (j : Int) ≠ 0 := by
          cases hn:HK y with
          | true=>obtain ⟨k2,n2,rfl,hn2⟩:=Ud hn;have:=hy _ _ rfl;cases this;exact hn2
          | false =>
            rw [hn] at h;cases zzc h;have:=has _ (List.mem_singleton.2 rfl);have h2:(!((j:Int)==(0:Int)))=true:=this;intro h0;rw [h0] at h2;simp at h2
        have hz:(binOp .rem T (.int k i) (.int k j)).run P w=.ok (.int k (Int.tmod i j)) w:=by simp [binOp,Op.intDiv,hj]
        cases hn:HK y with
        | true=>rw [hn] at h;cases zzc h;exact ⟨_,Au (hg _) hz,Aw rfl,rfl,rfl⟩
        | false=>rw [hn] at h;cases zzc h;exact ⟨_,Au (hg _) hz,Aw rfl,rfl,rfl⟩
      · split at h
        · rename_i c hc;cases zzc h;exact ⟨_,Au (hg _) (rU hc T k),Aw rfl,rfl,rfl⟩
        · exact (zzb h).elim
  ·
    rename_i x1 y1;have hu:u=.string x1:=Ea hp;have hv:v=.string y1:=Ea hq;subst hu;subst hv;have hg:∀ op,(eqGuard op T x y (.string x1) (.string y1)).run P w=.ok () w:=fun op=>Hw op T x y _ _ rfl (by simp)
    split at h
    · cases zzc h;exact ⟨_,Au (hg _) (by simp only [binOp_string_eql,Sem.run_pure]),Aw rfl,rfl,rfl⟩
    · cases zzc h;exact ⟨_,Au (hg _) (by simp only [binOp_string_neq,Sem.run_pure]),Aw rfl,rfl,rfl⟩
    · cases zzc h;exact ⟨_,Au (hg _) (by simp only [binOp_string_lss,Sem.run_pure]),Aw rfl,rfl,rfl⟩
    · cases zzc h;have h1:=has _ zzl;have h2:=has _ (zzm _ zzl);have h1:=of_decide_eq_true (show decide _=true from h1);have h2:=of_decide_eq_true (show decide _=true from h2);have h3:((ByteArray.size x1:Nat):Int)≤17592186044416:=h1.2.1;have h4:((ByteArray.size y1:Nat):Int)≤17592186044416:=h2.2.1;refine ⟨_,Au (hg _) ?_,Aw rfl,rfl,rfl⟩;have h5:¬ (((ByteArray.size x1+ByteArray.size y1:Nat):Int) > IntKind.i64.max):=by
        simp only [IntKind.max,IntKind.signed,IntKind.bits];simp;omega
      simp [binOp,Op.stringOp];omega
    · exact (zzb h).elim
  ·
    rename_i hni hns;have gen : ∀ (b : Bool) (ts : List TypeId), AO P T = some ts → (pa == AW P T && qa == AW P T && Uv P CV T && !P.eqGuardType P.depth T && BV P ts pc && BV P ts qc) = true →
        JW (O:=std E N) pc qc=some b→∃ z:Unit,((do eqGuard .eql T x y u v;binOp .eql T u v:Sem Value).run P w=.ok (.bool b) w∧(do eqGuard .neq T x y u v;binOp .neq T u v:Sem Value).run P w=.ok (.bool !b) w)∧z=():=by
      intro b ts hts hc he;simp only [zzj,beq_iff_eq,Bool.not_eq_true'] at hc;obtain ⟨⟨⟨⟨⟨h1,h2⟩,h3⟩,h4⟩,h5⟩,h6⟩:=hc;refine ⟨(),?_,rfl⟩;have heq:=TI (P:=P) (n0:=n0) (β:=β) (σ:=σ) (s:=s) (w:=w) CV 10000 T ts pc qc u.cells.toList v.cells.toList b (by simp [CV]) h3 hts hp.1 hq.1 h5 h6 he;cases hag:AW P T with
      | true =>
        rw [hag] at h1 h2;subst h1;subst h2;obtain ⟨us,rfl,_⟩:=M0 hp;obtain ⟨vs,rfl,_⟩:=M0 hq;have hm:∀ xs:Array Value,I4 P T (Value.agg xs).cells.toList=.agg xs:=fun xs=>by simp [I4,hag,Value.cells]
        rw [hm,hm] at heq;exact ⟨Au (run_eqGuard_agg w _ T x y us vs h4) (by rw [run_eql_struct,heq];rfl),Au (run_eqGuard_agg w _ T x y us vs h4) (by rw [run_neq_struct,heq];rfl)⟩
      | false =>
        rw [hag] at h1 h2;subst h1;subst h2;have ou:=hp.2;have ov:=hq.2;simp only at ou ov;have lp:=RelCs.length hp.1;have lq:=RelCs.length hq.1;rw [BT ou] at lp;rw [BT ov] at lq
        match pc,qc,lp,lq with
        | [c1],[c2],_,_ =>
          have r1:=Ea hp;have r2:=Ea hq;have he2:eqC (O:=std E N) c1 c2=some b:=he;unfold eqC at he2
          split at he2
          · exact (hni _ _ _ _ rfl rfl rfl rfl).elim
          · rename_i i j _ _;cases he2;have hu:u=.bool i:=r1;have hv:v=.bool j:=r2;subst hu;subst hv;have hm:∀ c:Bool,I4 P T (Value.bool c).cells.toList=.bool c:=fun c=>by simp [I4,hag,Value.cells]
            rw [hm,hm] at heq;exact ⟨Au (Hw _ T x y _ _ rfl (by simp)) (by simp only [binOp,Op.equal,Op.maxDepth,Sem.run_bind,heq,Result.andThen_ok,Sem.run_pure]),
              Au (Hw _ T x y _ _ rfl (by simp)) (by simp only [binOp,Op.equal,Op.maxDepth,Sem.run_bind,heq,Result.andThen_ok,Sem.run_pure])⟩
          · exact (hns _ _ rfl rfl rfl rfl).elim
          · cases he2
    split at h
    · exact (zzb h).elim
    · rename_i ts hts
      split at h
      · rename_i b hc he;cases zzc h;obtain ⟨z,hz,rfl⟩:=gen b ts hts hc he;exact ⟨_,hz.1,Aw rfl,rfl,rfl⟩
      · rename_i b hc he;cases zzc h;obtain ⟨z,hz,rfl⟩:=gen b ts hts hc he;exact ⟨_,hz.2,Aw rfl,rfl,rfl⟩
      · exact (zzb h).elim
theorem IL (k:IntKind) (i:Int):(asIntOf (.int k i)).run P w=.ok (k,i) w:=rfl
theorem eK (hs : Sim P n0 nt β σ s a w) {T : TypeId} {p : AC0 E N} {ix : Operand} {v : Value} {k : IntKind} {i : Int} {as : List Bool} {r : AV (std E N)}
    {fr:List (Nat×Option (HEnt (std E N)))} {m m':Nat} (hp:RelC P n0 β σ s w p v) (hc:∀ k' n,ix=.const (.int k' n)→i=n)
    (h:RM.run s (TJ P T p ix i) m=.ok ((as,r,fr),m')) (has:∀ b∈as,b=true) :
    ∃ z,(Instr.indexAt T v (.int k i)).run P w=.ok z w∧RelAV P n0 β σ s w r z∧(∀ n∈r.names,n∈p.names)∧fr=[]:=by
  unfold TJ at h
  split at h
  ·
    rename_i n e hu;obtain ⟨_,m1,hg,h2⟩:=zza h;clear h;obtain ⟨ti,hti⟩:=Fb (Bd.1 (zzd hg));have run : ∀ (blk o : Nat), v = .pointer (some ⟨blk, o, none⟩) → 0 ≤ i → i < (n : Int) →
        (Instr.indexAt T v (.int k i)).run P w=.ok (.pointer (some ⟨blk,o+i.toNat * P.cellsOf e,none⟩)) w:=by
      intro blk o hv h0 h1;subst hv;simp [Instr.indexAt,IL,run_underlying hu,Instr.sureAddr,h0,h1,BZ hti,Hm]
    split at h2
    · rename_i k' c;have hic:=hc _ _ rfl;subst hic
      split at h2
      · rename_i p' hd hp';cases zzc h2;have hb:0≤i∧i<(n:Int):=of_decide_eq_true hd;obtain ⟨blk,o,hv,hr,hn⟩:=cJ hp' hp;exact ⟨_,run blk o hv hb.1 hb.2,Aw hr,fun n hm=>by simpa [AV.names,one,AF,hn] using hm,rfl⟩
      · exact (zzb h2).elim
    · split at h2
      · rename_i b off;cases zzc h2;have h1:decide (0≤i∧i<(n:Int))=true:=has _ zzl;have hb:0≤i∧i<(n:Int):=of_decide_eq_true h1;obtain ⟨blk,hv,hk⟩:=hp;exact ⟨_,run blk off hv hb.1 hb.2,Aw ⟨hb.1,hb.2,blk,rfl,hk⟩,fun n hm=>by simpa [AV.names,one,AF,AC.names] using hm,rfl⟩
      · exact (zzb h2).elim
  ·
    rename_i e hu;have run : ∀ (blk o len cap : Nat) (ts : List TypeId), AO P e = some ts → v = .slice (some ⟨blk, o, none⟩) len cap → 0 ≤ i → i < (len : Int) →
        (Instr.indexAt T v (.int k i)).run P w=.ok (.pointer (some ⟨blk,o+i.toNat * ts.length,none⟩)) w:=by
      intro blk o len cap ts hts hv h0 h1;obtain ⟨hsz,hpos⟩:=Cm hts;obtain ⟨ti,hti⟩:=Fb (P:=P) (t:=e) (by omega);subst hv;simp [Instr.indexAt,IL,run_underlying hu,h0,h1,BZ hti,Hm,hsz]
    split at h
    · rename_i e' id;obtain ⟨⟨eb,l,nb⟩,m1,hrow,h2⟩:=zza h;obtain ⟨_,m2,hg,h3⟩:=zza h2;clear h h2;have he:=AD.1 (zzd hg);subst he;cases zzc h3;obtain ⟨m3,hrow⟩:=zzf hrow;cases hh:s.getH id with
      | none=>rw [hh] at hrow;exact (zzb hrow).elim
      | some e1 =>
        rw [hh] at hrow;have hrr:=zzc hrow;simp only [Prod.mk.injEq] at hrr;obtain ⟨rfl,rfl,rfl⟩:=hrr;have h1:decide (0≤i∧i<((List.length e1.l:Nat):Int))=true:=has _ zzl;have hb:0≤i∧i<((List.length e1.l:Nat):Int):=of_decide_eq_true h1;obtain ⟨⟨te,hte,_⟩,hk⟩:=hp;obtain ⟨he1,ho⟩:=hk e1 hh
        rcases hs.M.H id e1 hh with ⟨t,ts,ht,hts,hrl,hm⟩ | hM
        case inr=>exact (hM.noSl (by rw [he1];exact hte)).elim
        rcases ho with ⟨blk,cap,hsg,hv⟩ | ⟨_,hz,_⟩
        · rw [he1] at hts;refine ⟨_,run blk 0 _ cap ts hts hv hb.1 hb.2,Aw ⟨hb.1,blk,_,rfl,fun h2 hh2=>?_⟩,fun n hm=>by simpa [AV.names,one,AF,AC.names] using hm,rfl⟩;rw [hh] at hh2;cases hh2;refine ⟨hb.2,ts,cap,by rw [he1];exact hts,hsg,⟨?_,te,by rw [he1];exact hte⟩,by omega⟩
          rcases hm with ⟨hn,_⟩ | ⟨blk',cap',_,_,hs',_,_,_,hcap,_⟩
          · rw [hn] at hsg;cases hsg
          · rw [hs'] at hsg;cases hsg;omega
        · rw [hz] at hb;omega
    · rename_i e' nw l;obtain ⟨_,m2,hg,h3⟩:=zza h;clear h;have he:=AD.1 (zzd hg);subst he;cases zzc h3;have h1:decide (0≤i∧i<((List.length l:Nat):Int))=true:=has _ zzl;have hb:0≤i∧i<((List.length l:Nat):Int):=of_decide_eq_true h1;obtain ⟨t,ht,hrep⟩:=hp;have hrep2:=hrep;cases hrep with
      | @sl _ e2 ts a len cap _ vv ht' hts hl hr hc' hm hv =>
        rw [ht] at ht';cases ht'
        rcases hm with hm | ⟨b,off,ha,hb1,hlt,hcell⟩
        · rw [hm] at hl;rw [hl] at hb;omega
        · subst ha;refine ⟨_,run b off len cap ts hts rfl hb.1 (by rw [← hl];exact hb.2),Aw ⟨hb.1,hb.2,t,ts,b,off,len,cap,ht,hts,hrep2,by simp⟩,fun n hm=>by simp [AV.names,one,AF,AC.names] at hm,rfl⟩
    · cases zzc h;have h1:(false:Bool)=true:=has _ zzl;cases h1
    · exact (zzb h).elim
  · exact (zzb h).elim
theorem my {T : TypeId} {p : Val (std E N)} {ix : Operand} {v : Value} {k : IntKind} {i : Int} {as : List Bool} {r : AV (std E N)}
    {fr:List (Nat×Option (HEnt (std E N)))} {m m':Nat} (hp:RelVal P n0 β σ s w p v) (hc:∀ k' n,ix=.const (.int k' n)→i=n)
    (h:RM.run s (dg P T p ix i) m=.ok ((as,r,fr),m')) (has:∀ b∈as,b=true) :
    ∃ z,(Instr.index T v (.int k i)).run P w=.ok z w∧RelAV P n0 β σ s w r z∧(∀ n∈r.names,n∈AF p.cs)∧fr=[]:=by
  obtain ⟨pa,pc⟩:=p;unfold dg at h;simp only at h
  split at h
  ·
    rename_i x hu;cases zzc h;have hv:v=.string x:=Ea hp;subst hv;have h1:decide (0≤i∧i<((ByteArray.size x:Nat):Int))=true:=has _ zzl;have hb:0≤i∧i<((ByteArray.size x:Nat):Int):=of_decide_eq_true h1;have hlt:i.toNat<ByteArray.size x:=by omega
    refine ⟨_,?_,Aw rfl,fun n hm=>by simp [AV.names,one,AF,AC.names] at hm,rfl⟩;have hg:x[i.toNat]?=some x[i.toNat]:=ByteArray.getElem?_lt' x i.toNat hlt;have hdat:x.data.toList.getD i.toNat 0=x[i.toNat]:=by
      have:i.toNat<x.data.toList.length:=by simpa using hlt
      simp [List.getD,zzn this];rfl
    simp only [Instr.index,Sem.run_bind,IL,Result.andThen_ok,run_underlying hu,hb.1,if_true,hg,Sem.run_pure,K8,hdat]
  ·
    rename_i n e hu;obtain ⟨vs,rfl,hr⟩:=M0 hp
    split at h
    · rename_i k' c;have hic:=hc _ _ rfl;subst hic
      split at h
      · rename_i r' hd hsl;obtain ⟨_,m1,hg,h2⟩:=zza h;clear h;have hag:=zzd hg;cases zzc h2;have hb:0≤i∧i<(n:Int):=of_decide_eq_true hd;obtain ⟨e1,e2⟩:=C5 hsl;have hrr:=RelCs.take (P.cellsOf e) (RelCs.drop (i.toNat * P.cellsOf e) hr);rw [← e1] at hrr;obtain ⟨⟨d,hud⟩,_⟩:=MR hag;obtain ⟨ti,hti⟩:=CG hud;obtain ⟨z,hz,hrel⟩:=jY hrr e2 hag;exact ⟨z,by simp [Instr.index,IL,run_underlying hu,hb.1,hb.2,BZ hti,hz],hrel,fun n hm=>Dx hsl hm,rfl⟩
      · exact (zzb h).elim
    · split at h
      · exact (zzb h).elim
      · rename_i n
        split at h
        · rename_i r' hpk;obtain ⟨_,m1,hg,h2⟩:=zza h;clear h;have hag:=zzd hg;cases zzc h2;have h1:decide (0≤i∧i<((n+1:Nat):Int))=true:=has _ zzl;have hb:0≤i∧i<((n+1:Nat):Int):=of_decide_eq_true h1;have hrr:=Xi (P:=P) (n0:=n0) (β:=β) (σ:=σ) (s:=s) (w:=w) (fun k=>(vs.toList.drop (k * P.cellsOf e)).take (P.cellsOf e)) hpk hb.1 (by omega)
            (fun k c hk hc=>by
              have:=RelCs.take (P.cellsOf e) (RelCs.drop (k * P.cellsOf e) hr)
              rwa [← (C5 hc).1] at this)
          have e2:r'.length=P.cellsOf e:=Xd (fun k c hc=>(C5 hc).2) hpk;obtain ⟨⟨d,hud⟩,_⟩:=MR hag;obtain ⟨ti,hti⟩:=CG hud;obtain ⟨z,hz,hrel⟩:=jY hrr e2 hag;have hb2:i<(n:Int)+1:=by omega
          refine ⟨z,by simp [Instr.index,IL,run_underlying hu,hb.1,hb2,BZ hti,hz],hrel,fun q hm=>?_,rfl⟩;obtain ⟨c,hc,hmc⟩:=ZF hpk q hm;exact Dx hc hmc
        · exact (zzb h).elim
  · exact (zzb h).elim
theorem TW {ctx:List (Nat×Bool)} {x:Option Operand} (h:XI x=true):x=none∨∃ k,x=some (.const (.int k 0)):=by
 unfold XI at h
 split at h
 ·exact .inl rfl
 ·rename_i k n;exact .inr ⟨k,by rw [of_decide_eq_true h]⟩
 ·cases h
theorem U6 (hs : Sim P n0 nt β σ s a w) {ctx : List (Nat × Bool)} (hf : Facts a ctx) {d i : Int} {x : Option Operand} {m m' : Nat} (h : RM.run s (cu (O := std E N) ctx d x) m = .ok (i, m')) :
    (x=none∧i=d)∨∃ o k,x=some o∧a.eval o=.int k i:=by
  cases x with
  | none=>exact .inl ⟨rfl,(zzc h).symm⟩
  | some o=>obtain ⟨k,hk⟩:=bv hs hf h;exact .inr ⟨o,k,rfl,hk⟩
theorem KC {k:IntKind} {i:Int} {y:Nat} {code:BoundsCode} (h0:0≤i) (h1:i≤(y:Int)):(Instr.sliceBound (.int k i) y code).run P w=.ok i.toNat w:=by
 simp [Instr.sliceBound,IL,h0,h1]
theorem SQ {isSl : Bool} {len cap : Nat} {lo hi : Option Value} {l h : Int} (hlo : (lo = none ∧ l = 0) ∨ ∃ k, lo = some (.int k l)) (hhi : (hi = none ∧ h = len) ∨ ∃ k, hi = some (.int k h))
    (h0:0≤l) (h1:l≤h) (h2:h≤(len:Int)) (h3:len≤cap):(Instr.sliceBounds isSl len cap lo hi none).run P w=.ok (l.toNat,h.toNat,cap) w:=by
  have e2:((h.toNat:Nat):Int)=h:=by omega
  rcases hhi with ⟨rfl,rfl⟩ | ⟨k2,rfl⟩
  · rcases hlo with ⟨rfl,rfl⟩ | ⟨k1,rfl⟩
    · simp [Instr.sliceBounds]
    · simp [Instr.sliceBounds,KC h0 h1]
  · have hb:=fun code=>KC (P:=P) (w:=w) (k:=k2) (i:=h) (y:=cap) (code:=code) (by omega) (by omega)
    rcases hlo with ⟨rfl,rfl⟩ | ⟨k1,rfl⟩
    · cases isSl<;>simp [Instr.sliceBounds,hb]
    · have hl:=fun code=>KC (P:=P) (w:=w) (k:=k1) (i:=l) (y:=h.toNat) (code:=code) h0 (by omega)
      cases isSl<;>simp [Instr.sliceBounds,hb,hl]
theorem Rep.sub {St : Nat → Prop} {t : TypeId} {av : Option Addr} {len cap : Nat} {l : Rows} (h : Rep P w St t (.slice av len cap) (.rows l)) {lo hi : Nat} (h1 : lo ≤ hi) (h2 : hi ≤ len) {e : TypeId} {ts : List TypeId}
    (ht:AJ P t=.sl e) (hts:AO P e=some ts) :
    Rep P w St t (.slice (if cap=lo then av else av.map (·.add (lo * ts.length))) (hi - lo) (cap - lo)) (.rows ((l.take hi).drop lo)):=by
  cases h with
  | @sl _ e' ts' _ _ _ _ v ht' hts' hl hr hc hm hv =>
    rw [ht] at ht';cases ht';rw [hts] at hts';cases hts';have hlen:((l.take hi).drop lo).length=hi - lo:=by simp;omega
    have hrow:∀ i,i<hi - lo→Aa ((l.take hi).drop lo) i=Aa l (lo+i):=fun i hi'=>by
      simp only [Aa,List.getD,List.getElem?_drop,List.getElem?_take];rw [if_pos (by omega)]
    refine .sl (fun i j=>v (lo+i) j) ht hts hlen (fun r hr'=>hr r (List.mem_of_mem_take (List.mem_of_mem_drop hr'))) (by omega) ?_ (fun i j t' hi' hj=>?_)
    · by_cases hz:hi - lo=0
      · exact .inl hz
      · rcases hm with hm | ⟨b,off,ha,hb,hlt,hcell⟩
        · omega
        · refine .inr ⟨b,off+lo * ts.length,?_,hb,hlt,fun i j hi' hj=>?_⟩
          · have:¬ cap=lo:=by omega
            rw [if_neg this,ha];simp [Hm]
          · have:=hcell (lo+i) j (by omega) hj;rw [← this];congr 2;rw [Nat.add_mul];omega
    · have:=hv (lo+i) j t' (by omega) hj;unfold AB at this ⊢
      rwa [hrow i hi']
def FrOK (s:St0 E N) (fr:List (Nat×Option (HEnt (std E N)))):Prop :=
 ∀ n v,(n,v)∈fr→∃ h,s.getH n=some h∧v=some { h with frozen:=true,dirty:=true }
theorem pz {fr : List (Nat × Option (HEnt (std E N)))} : ∀ {l : List (Nat × HEnt (std E N))}, (∀ n v, (n, v) ∈ fr → ∃ h, AH s.hp n = some h ∧ v = some { h with frozen := true, dirty := true }) →
    (∀ k h',AH l k=some h'→∃ h,AH s.hp k=some h∧(h'=h∨h'={ h with frozen:=true,dirty:=true })) →
    ∀ k h',AH (BA l fr) k=some h'→∃ h,AH s.hp k=some h∧(h'=h∨h'={ h with frozen:=true,dirty:=true }):=by
  induction fr with
  | nil=>intro l _ hl k h' hk;exact hl k h' hk
  | cons x fr ih =>
    intro l hfr hl k h' hk;obtain ⟨n,v⟩:=x;simp only [BA] at hk;refine ih (fun n v hm=>hfr n v (zzm _ hm)) (fun k h' hk=>?_) k h' hk;rw [BB] at hk
    split at hk
    · rename_i hkn;obtain ⟨h,h1,h2⟩:=hfr n v zzl;rw [h2] at hk;cases hk;exact ⟨h,by rw [hkn];exact h1,.inr rfl⟩
    · exact hl k h' hk
theorem FrOK.get {fr : List (Nat × Option (HEnt (std E N)))} (h : FrOK s fr) {wr : Wr (std E N)} (hw : wr.hs = fr) (k : Nat) (h' : HEnt (std E N)) (hk : (s.apply wr).getH k = some h') :
    ∃ h,s.getH k=some h∧(h'=h∨h'={ h with frozen:=true,dirty:=true }):=by
  unfold State.apply State.getH at hk;rw [hw] at hk;exact pz h (fun k h' hk=>⟨h',hk,.inl rfl⟩) k h' hk
theorem FrOK.sub {fr:List (Nat×Option (HEnt (std E N)))} (h:FrOK s fr) {wr:Wr (std E N)} (hw:wr.hs=fr) (hb:wr.bs=[]):Sub s (s.apply wr) where
 b n e he:=⟨e,by rw [State.getB_apply0 s wr hb] at he;exact he,rfl⟩
 h n h' hk:=by
  obtain ⟨h0,hh,h1⟩:=h.get hw n h' hk;refine ⟨h0,hh,?_⟩
  rcases h1 with rfl | rfl
  ·exact ⟨rfl,rfl,rfl,id⟩
  ·exact ⟨rfl,rfl,rfl,fun h=>by cases h⟩
theorem Tb {α:Type} {k:Nat} {v:Option α} {l:List (Nat×α)} {ws:List (Nat×Option α)} (h:∀ x∈ws,x.1=k→x.2=v) (hm:∃ x∈ws,x.1=k):AH (BA l ws) k=v:=by
 induction ws generalizing l with
 | nil=>obtain ⟨x,hx,_⟩:=hm;simp at hx
 | cons y ws ih =>
  obtain ⟨n,u⟩:=y;simp only [BA]
  by_cases hex:∃ x∈ws,x.1=k
  ·exact ih (fun x hx=>h x (zzm _ hx)) hex
  ·rw [Wu ws _ k (fun x hx he=>hex ⟨x,hx,he⟩),BB];obtain ⟨x,hx,he⟩:=hm
   rcases List.mem_cons.1 hx with rfl | hx
   ·rw [if_pos he.symm];exact h _ zzl he
   ·exact (hex ⟨x,hx,he⟩).elim
theorem l8 (m : Mem P n0 β σ s w) {id : Nat} {h : HEnt (std E N)} {v : Value} (hh : s.getH id = some h) (hfz : h.frozen = true) (hsl : ∃ t, AJ P t = .sl h.e) (ho : jZ σ id h.l.length v) :
    ∃ t,AJ P t=.sl h.e∧Rep P w (StB n0 β σ s h.nw) t v (.rows h.l):=by
  rcases m.H id h hh with ⟨t,ts,ht,hts,hrl,hm⟩ | hM
  case inr=>exact (hM.noSl hsl.choose_spec).elim
  refine ⟨t,ht,?_⟩
  rcases ho with ⟨blk,cap,hs,rfl⟩ | ⟨hs,hz,x,rfl⟩
  · rcases hm with ⟨hn,_⟩ | ⟨blk',cap',cells,el,hs',hheap,hel,hsz,hcap,hnw,u,hu,hrep⟩
    · rw [hn] at hs;cases hs
    · rw [hs'] at hs;cases hs;refine .sl u ht hts rfl hrl hcap (.inr ⟨blk,0,rfl,⟨fun hin=>?_,hnw⟩,A9 hheap,fun i j hi hj=>?_⟩) hrep
      · rcases hin with ⟨b,e,he,hb⟩ | ⟨id',h',cap',hh',hf',hs2⟩
        · exact m.uX b e id h blk cap he hh hb hs'
        · have:=m.uH id id' h h' blk cap cap' hh hh' hs' hs2;subst this;rw [hh] at hh';cases hh';rw [hfz] at hf';cases hf'
      · rw [cell_of_heap hheap];simpa using hu i j hi hj
  · have hl:h.l=[]:=List.length_eq_zero_iff.1 hz;rw [hl];exact .sl (fun _ _=>undef) ht hts (by simp) (by simp) (Nat.le_refl _) (.inl rfl) (fun i j t' hi=>by omega)
theorem nC (hs : Sim P n0 nt β σ s a w) {ctx : List (Nat × Bool)} (hf : Facts a ctx) {T : TypeId} {c : AC0 E N} {lo hi mx : Option Operand} {v : Value} {as : List Bool} {r : AV (std E N)}
    {fr:List (Nat×Option (HEnt (std E N)))} {m m':Nat} (hp:RelC P n0 β σ s w c v) (h:RM.run s (dP P ctx T c lo hi mx) m=.ok ((as,r,fr),m')) (has:∀ b∈as,b=true) :
    ∃ z,(Instr.sliceAt T v (lo.map a.eval) (hi.map a.eval) (mx.map a.eval)).run P w=.ok z w∧RelAV P n0 β σ (s.apply { hs:=fr }) w r z∧r.names=[]∧FrOK s fr:=by
  have frn:FrOK s ([]:List (Nat×Option (HEnt (std E N)))):=fun n v hm=>by simp at hm
  have sub0:∀ {c:AC0 E N} {z:Value},RelC P n0 β σ s w c z→RelC P n0 β σ (s.apply { hs:=[] }) w c z:=fun {c z} hr =>
    ((frn.sub (wr:={ hs:=[] }) rfl rfl).ext P (fun _=>False) β σ w).relC (fun _ _=>id) hr
  have notarr:∀ {d:TypeDesc} {v:Value} {lo hi mx:Option Value},P.underlying T=some d→(∀ n e,d≠.array n e)→(Instr.sliceAt T v lo hi mx).run P w=(Instr.slice T v lo hi mx).run P w:=by
    intro d v lo hi mx hu hd;unfold Instr.sliceAt;rw [Sem.run_bind,run_underlying hu,Result.andThen_ok];cases d<;>first | rfl | exact (hd _ _ rfl).elim
  unfold dP at h
  split at h
  ·
    rename_i m0
    split at h
    · rename_i e' e nw l hu h1 h2 h3
      split at h
      · rename_i hee;have:=AD.1 hee;subst this;cases zzc h;obtain ⟨t,ht,hrep⟩:=hp;cases hrep with
        | @sl _ e2 ts av len cap _ vv ht' hts hl hr hc hm hv =>
          rw [ht] at ht';cases ht';obtain ⟨hsz,hpos⟩:=Cm hts;have hpos':=hpos;rw [← hsz] at hpos';obtain ⟨ti,hti⟩:=Fb hpos';simp only [zzj] at h2;have e1:=TW (ctx:=ctx) h1;have e2:∃ k,hi=some (.const (.int k 0)):=by
            rcases TW (ctx:=ctx) h2.1 with rfl | h
            · simp at h2
            · exact h
          have e3:∃ k,(some m0:Option Operand)=some (.const (.int k 0)):=by
            rcases TW (ctx:=ctx) h3 with h | h
            · cases h
            · exact h
          obtain ⟨k2,rfl⟩:=e2;obtain ⟨k3,e3⟩:=e3;cases e3;have hb:=fun (k:IntKind) (y:Nat) code=>KC (P:=P) (w:=w) (k:=k) (i:=0) (y:=y) (code:=code) (by omega) (by omega)
          refine ⟨.slice av 0 0,?_,sub0 (cx ⟨t,ts,ht,hts,av,rfl⟩ |> Ea) |> Aw,rfl,frn⟩;rw [notarr hu (by simp)]
          rcases e1 with rfl | ⟨k1,rfl⟩
          · simp [Instr.slice,run_underlying hu,Instr.sliceBounds,Act.eval,hb,BZ hti]
          · simp [Instr.slice,run_underlying hu,Instr.sliceBounds,Act.eval,hb,BZ hti]
      · exact (zzb h).elim
    · exact (zzb h).elim
  · split at h
    ·
      rename_i hu
      split at h
      case h_2=>exact (zzb h).elim
      rename_i x;obtain ⟨l,m1,h1,h2⟩:=zza h;obtain ⟨u,m2,h3,h4⟩:=zza h2;cases zzc h4;have hv:v=.string x:=hp;subst hv;have hb:decide (0≤(l:Int)∧(l:Int)≤u∧u≤((ByteArray.size x:Nat):Int))=true:=has _ zzl;have hb:=of_decide_eq_true hb;have b1:=U6 hs hf h1;have b2:=U6 hs hf h3;have hsb:=SQ (P:=P) (w:=w) (isSl:=false) (len:=ByteArray.size x) (cap:=ByteArray.size x) (lo:=lo.map a.eval) (hi:=hi.map a.eval) (l:=l) (h:=u)
        (by rcases b1 with ⟨rfl, rfl⟩ | ⟨o, k, rfl, hk⟩
            · exact .inl ⟨rfl,rfl⟩
            · exact .inr ⟨k,by simp [hk]⟩)
        (by rcases b2 with ⟨rfl, rfl⟩ | ⟨o, k, rfl, hk⟩
            · exact .inl ⟨rfl,rfl⟩
            · exact .inr ⟨k,by simp [hk]⟩) hb.1 hb.2.1 hb.2.2 (Nat.le_refl _)
      refine ⟨_,?_,Aw (c:=.str _) rfl,rfl,frn⟩;rw [notarr hu (by simp)];simp [Instr.slice,run_underlying hu,hsb]
    ·
      rename_i e' hu;obtain ⟨⟨e,l,nw⟩,m1,hrow,h2⟩:=zza h;obtain ⟨_,m2,hg,h3⟩:=zza h2;obtain ⟨lb,m3,h4,h5⟩:=zza h3;obtain ⟨ub,m4,h6,h7⟩:=zza h5;obtain ⟨lb,rfl⟩:∃ j:Int,j=lb:=⟨lb,rfl⟩;obtain ⟨ub,rfl⟩:∃ j:Int,j=ub:=⟨ub,rfl⟩;have hee:=AD.1 (zzd hg);have b1:=U6 hs hf h4;have b2:=U6 hs hf h6;have run : ∀ (av : Option Addr) (len cap : Nat) (ts : List TypeId), v = .slice av len cap → AO P e' = some ts → l.length = len → len ≤ cap →
          0≤lb→lb≤ub→ub≤((List.length l:Nat):Int) →
          (Instr.sliceAt T v (lo.map a.eval) (hi.map a.eval) none).run P w =
            .ok (.slice (if cap=Int.toNat lb then av else av.map (·.add (Int.toNat lb * ts.length))) (Int.toNat ub - Int.toNat lb) (cap - Int.toNat lb)) w:=by
        intro av len cap ts hv hts hl hc c1 c2 c3;obtain ⟨hsz,hpos⟩:=Cm hts;obtain ⟨ti,hti⟩:=Fb (P:=P) (t:=e') (by omega);subst hv;have hsb:=SQ (P:=P) (w:=w) (isSl:=true) (len:=len) (cap:=cap) (lo:=lo.map a.eval) (hi:=hi.map a.eval) (l:=lb) (h:=ub)
          (by rcases b1 with ⟨rfl, rfl⟩ | ⟨o, k, rfl, hk⟩
              · exact .inl ⟨rfl,rfl⟩
              · exact .inr ⟨k,by simp [hk]⟩)
          (by rcases b2 with ⟨rfl, rfl⟩ | ⟨o, k, rfl, hk⟩
              · exact .inl ⟨rfl,by show ((List.length l:Nat):Int)=_;rw [hl]⟩
              · exact .inr ⟨k,by simp [hk]⟩) c1 c2 (by rw [← hl];exact c3) hc
        rw [notarr hu (by simp)];simp [Instr.slice,run_underlying hu,hsb,BZ hti,hsz]
      cases c with
      | own e0 id =>
        obtain ⟨m5,hrow⟩:=zzf hrow;obtain ⟨m6,h8⟩:=zzf h7;cases hh:s.getH id with
        | none=>rw [hh] at hrow;exact (zzb hrow).elim
        | some en =>
          rw [hh] at hrow h8;have hrr:=zzc hrow;simp only [Prod.mk.injEq] at hrr;obtain ⟨rfl,rfl,rfl⟩:=hrr;subst hee;have hr8:=zzc h8;simp only [Prod.mk.injEq] at hr8;obtain ⟨rfl,rfl,rfl⟩:=hr8;have hb:decide (0≤lb∧lb≤ub∧ub≤((List.length en.l:Nat):Int))=true:=has _ zzl;have hb:=of_decide_eq_true hb;have frk:FrOK s [(id,some { en with frozen:=true,dirty:=true })]:=fun n v hm=>by
            simp only [List.mem_singleton,Prod.mk.injEq] at hm;obtain ⟨rfl,rfl⟩:=hm;exact ⟨en,hh,rfl⟩
          have sub:=frk.sub (wr:={ hs:=[(id,some { en with frozen:=true,dirty:=true })] }) rfl rfl;have hm1:=sub.mem hs.M;have hget:(s.apply { hs:=[(id,some { en with frozen:=true,dirty:=true })] }).getH id=some { en with frozen:=true,dirty:=true }:=by
            unfold State.apply State.getH;simp only [BA,BB,if_true]
          obtain ⟨⟨te,hte,_⟩,hk⟩:=hp;obtain ⟨he1,ho⟩:=hk en hh;obtain ⟨t,ht,hrep⟩:=l8 (h:={ en with frozen:=true,dirty:=true }) hm1 hget rfl ⟨te,by show _=LK.sl en.e;rw [he1];exact hte⟩ ho
          rcases hs.M.H id en hh with ⟨t2,ts,ht2,hts,_⟩ | hM
          case inr=>exact (hM.noSl (by rw [he1];exact hte)).elim
          cases hv:v with
          | slice av len cap =>
            rw [hv] at hrep;have hlen:List.length en.l=len:=by cases hrep;assumption
            have hc:len≤cap:=by cases hrep;assumption
            have hsub:=Rep.sub hrep (lo:=Int.toNat lb) (hi:=Int.toNat ub) (by have:=hb.2.1;omega) (by have:=hb.2.2;omega) ht hts;rw [← hv];exact ⟨_,run av len cap ts hv hts hlen hc hb.1 hb.2.1 hb.2.2,Aw ⟨t,ht,hsub⟩,rfl,frk⟩
          | _=>rw [hv] at hrep;cases hrep
      | imm e0 nw0 l0 =>
        have hrr:=zzc hrow;simp only [Prod.mk.injEq] at hrr;obtain ⟨rfl,rfl,rfl⟩:=hrr;subst hee;cases zzc h7;have hb:decide (0≤lb∧lb≤ub∧ub≤((List.length l0:Nat):Int))=true:=has _ zzl;have hb:=of_decide_eq_true hb;obtain ⟨t,ht,hrep⟩:=hp;have hrep2:=hrep;cases hrep with
        | @sl _ e2 ts av len cap _ vv ht' hts hl hr hc hm hv =>
          rw [ht] at ht';cases ht';have hsub:=Rep.sub hrep2 (lo:=Int.toNat lb) (hi:=Int.toNat ub) (by have:=hb.2.1;omega) (by have:=hb.2.2;omega) ht hts;exact ⟨_,run av len cap ts rfl hts hl hc hb.1 hb.2.1 hb.2.2,Aw (sub0 ⟨t,ht,hsub⟩),rfl,frn⟩
      | nil e0 =>
        have hrr:=zzc hrow;simp only [Prod.mk.injEq] at hrr;obtain ⟨rfl,rfl,rfl⟩:=hrr;subst hee;cases zzc h7;have hb:decide (0≤lb∧lb≤ub∧ub≤((List.length ([]:Rows):Nat):Int))=true:=has _ zzl;have hb:=of_decide_eq_true hb;obtain ⟨t,ts,ht,hts,av,rfl⟩:=hp;have hrep:Rep P w (StB n0 β σ s true) t (.slice av 0 0) (.rows []):=.sl (fun _ _=>undef) ht hts rfl (by simp) (Nat.le_refl _) (.inl rfl) (fun i j t' hi=>by omega);have hsub:=Rep.sub hrep (lo:=Int.toNat lb) (hi:=Int.toNat ub) (by have:=hb.2.1;omega) (by have:=hb.2.2;simp at this;omega) ht hts;exact ⟨_,run av 0 0 ts rfl hts rfl (Nat.le_refl _) hb.1 hb.2.1 hb.2.2,Aw (sub0 ⟨t,ht,hsub⟩),rfl,frn⟩
      | int k i=>exact (zzb hrow).elim
      | bool b=>exact (zzb hrow).elim
      | str x=>exact (zzb hrow).elim
      | ptr b off=>exact (zzb hrow).elim
      | aptr b off n sz i inner=>exact (zzb hrow).elim
      | eptr id i off=>exact (zzb hrow).elim
      | iptr e nw l i off=>exact (zzb hrow).elim
      | fn f caps=>exact (zzb hrow).elim
      | nilptr=>exact (zzb hrow).elim
      | tail e id i=>exact (zzb hrow).elim
      | mp e id=>exact (zzb hrow).elim
      | any T=>exact (zzb hrow).elim
    · exact (zzb h).elim
end
end Go.Px
end
