/- Part 9. -/
import Derived.Test.YteeikpbpdlgdfaaGreatDoorPart08
import Derived.Lib.Bytealg
import Derived.Lib.Strings
import Derived.Lib.Join
import Derived.Lib.ItoaNum
import Derived.Below
import Derived.Sort.Grow
import Derived.Deep.Draws
set_option linter.unusedVariables false
set_option linter.unusedSimpArgs false
section
namespace Go.Px
def LO:List Nat→List PV→Bool
 | [],[]=>true
 | k::ks,p::ps=>(match p with | .int _=>Nat.beq k 0 | .bool _=>Nat.beq k 1 | .str _=>Nat.beq k 2 | .rows _=>Nat.beq k 3)&&LO ks ps
 | _,_=>false
structure Ags (O:Alg) where
 I:Nat→O.I
 B:Nat→O.B
 S:Nat→O.S
 L:Nat→O.L
def xr {O:Alg} (x:Ags O):List Nat→Nat→List O.Lf
 | [],_=>[]
 | k::ks,j=>(match k with | 0=>.int (x.I j) | 1=>.bool (x.B j) | 2=>.str (x.S j) | _=>.rows (x.L j))::xr x ks (j+1)
def cr (O:Alg) (c:O.C):List Nat→Nat→List O.Lf
 | [],_=>[]
 | k::ks,j=>(match k with | 0=>.int (O.i c j) | 1=>.bool (O.l c j) | 2=>.str (O.cS c j) | _=>.rows (O.r c j))::cr O c ks (j+1)
def rr (O:Alg) (l:O.L) (i:O.I):List Nat→Nat→List O.Lf
 | [],_=>[]
 | k::ks,j=>(match k with | 0=>.int (O.s l i j) | 1=>.bool (O.rB l i j) | 2=>.str (O.rS l i j) | _=>.rows (O.rL l i j))::rr O l i ks (j+1)
def kI:List Nat:=[0,0,0,0,0,0,0,0,0,0,0,0,0,0,3,0,3,3,1,3,1,0,0,0,3,0,0,0]
def kR:List Nat:=[2,0,0,0,0,0,0,0,1,0,0,0,0,3]
def kM:List Nat:=[2,0,0,0,0,0,0,0,1,0,0,0,0,3,0,0,1,3,0,0,0,0,0]
def ap (O:Alg) (a b:List O.Lf):List O.Lf:=a++b
def xOf {E:Env} {N:Nat} (ls:List PV):Ags (std E N):={ I:=fun j=>pvI (AE ls j),B:=fun j=>pvB (AE ls j),S:=fun j=>pvS (AE ls j),L:=fun j=>pvL (AE ls j) }
theorem Wd {E:Env} {N:Nat}:∀ {ks:List Nat} {ps pre:List PV},LO ks ps=true→ps.map PV.leaf=xr (xOf (E:=E) (N:=N) (pre++ps)) ks pre.length
 | [],[],pre,_=>rfl
 | k::ks,p::ps,pre,h=>by
  simp only [LO,zzk] at h;have ih:=Wd (E:=E) (N:=N) (ks:=ks) (ps:=ps) (pre:=pre++[p]) h.2;simp only [List.map_cons,xr];have hc:AE (pre++p::ps) pre.length=p:=by
   unfold AE;rw [zzl,List.getElem?_append_right (Nat.le_refl _)];simp
  rw [List.append_assoc,List.length_append] at ih;have ih:ps.map PV.leaf=xr (xOf (E:=E) (N:=N) (pre++p::ps)) ks (pre.length+1):=ih;rw [ih];congr 1;have h1:=h.1;cases p with
  | int n=>have:=AD.1 h1;subst this;simp [xOf,hc,PV.leaf]
  | bool n=>have:=AD.1 h1;subst this;simp [xOf,hc,PV.leaf]
  | str n=>have:=AD.1 h1;subst this;simp [xOf,hc,PV.leaf]
  | rows n=>have:=AD.1 h1;subst this;simp [xOf,hc,PV.leaf]
 | [],_::_,_,h=>by simp [LO] at h
 | _::_,[],_,h=>by simp [LO] at h
theorem Xo {E:Env} {N:Nat} {ks:List Nat} {ls:List PV} (h:LO ks ls=true):ls.map PV.leaf=xr (xOf (E:=E) (N:=N) ls) ks 0:=Wd (pre:=[]) h
def HV (ks:List Nat) (ls:List PV) (F:Option (List PV)):Option (List PV):=match LO ks ls with
 | true=>F
 | false=>none
theorem XU {ks:List Nat} {ls rs:List PV} {F:Option (List PV)} (h:HV ks ls F=some rs):LO ks ls=true∧F=some rs:=by
 unfold HV at h
 split at h
 ·rename_i hs;exact ⟨hs,h⟩
 ·cases h
abbrev VV (P:Program) (E:Env) (N:Nat) (ci:CI):Prop:=Bc P E N ci∧Bc P E N { ci with own:=false }
theorem Um {P:Program} {E:Env} {N:Nat}:∀ ci∈([]:List CI),VV P E N ci:=fun ci h=>by simp at h
theorem R3 {P:Program} {E:Env} {N:Nat} {c:CI} {l:List CI} (h:VV P E N c) (k:∀ ci∈l,VV P E N ci):∀ ci∈c::l,VV P E N ci:=fun ci hm=>by
 rcases List.mem_cons.1 hm with rfl | hm
 ·exact h
 ·exact k ci hm
theorem ZM {P : Program} (hmix : P.follows .mixedOrders = true) {E : Env} {N : Nat} {cfg : Cfg} (hΓ : ∀ ci ∈ cfg.gam, VV P E N ci) (hb : ∀ b ∈ cfg.bld, Ko P b) {ci : CI} {ks : List Nat} {c F : List PV → Option (List PV)} (hc : ∀ ls, c ls = HV ks ls (F ls))
    (hx:∀ ls,XF (O:=std E N) P cfg ci.ow ci.nw ci.gives ci.f ci.fns (xr (xOf ls) ks 0)=F ls) {E':Env} {N':Nat} (h:∀ ls,E' ci.f ci.fns ls=c ls):VV P E' N' ci :=
  bp hmix ⟨hΓ,hb⟩ (fun ls rs he=>by
    rw [h,hc] at he;obtain ⟨h1,h2⟩:=XU he;rw [Xo h1,hx];exact h2)
theorem K9 {P : Program} (hmix : P.follows .mixedOrders = true) {E : Env} {N : Nat} {cfg : Cfg} (hΓ : ∀ ci ∈ cfg.gam, VV P E N ci) {ci : CI} {ks : List Nat} {c F : List PV → Option (List PV)} (hc : ∀ ls, c ls = HV ks ls (F ls))
    (hx:∀ ls,XF (O:=std E N) P cfg ci.ow ci.nw ci.gives ci.f ci.fns (xr (xOf ls) ks 0)=F ls) {E':Env} {N':Nat} (h:∀ ls,E' ci.f ci.fns ls=c ls) (hb:cfg.bld=[]:=by rfl):VV P E' N' ci :=
  ZM hmix hΓ (by rw [hb];exact fun b h=>by simp at h) hc hx h
def QQ (n b:Nat):Bool:=decide (n≤17592186044416∧n * b≤17592186044416)
def ID (b:Nat) (ls:List PV):Option (List PV):=match ls with
 | [.rows l]=>match QQ l.length b with
  | true=>some [.rows l]
  | false=>none
 | _=>none
def JY (T:TypeId) (fn:Func):Code:=match fn.body with
 | some c=>match FK T c with
  | some (nb,_)=>nb
  | none=>.skip
 | none=>.skip
def LU (T:TypeId) (fn:Func):Code:=match fn.body with
 | some c=>match FK T c with
  | some (_,t)=>t
  | none=>.skip
 | none=>.skip
def UL (fn:Func):Lv:={ nrm:=HI fn.results.toList,ret:=HI fn.results.toList,exts:=[] }
def YP (P:Program) (T:TypeId) (fn:Func):Bool:=match fn.body with
 | some c=>(FK T c).isSome&&Bk fn.ntmps (JY T fn)&&Bk fn.ntmps (LU T fn)&&(an P (JY T fn)).nrm.isNone&&Nat.ble 5 fn.ntmps&&A6 fn.params.toList [T]
 | none=>false
theorem Hs {P : Program} (hmix : P.follows .mixedOrders = true) {f : FuncId} {T e : TypeId} {b : Nat} {fn : Func} (hfn : P.funcs[f]? = some fn) (hT : P.underlying T = some (.slice e)) (hok : YP P T fn = true) (hb : b ≤ 1048576)
    (h1:∀ (O:Alg) (l:O.L),XL (O:=O) P { gam:=[] } 6 (JY T fn) true (UL fn) (DZ e l) (UV P (fun _=>true) true fn)=O.a [.rows O.y])
    (h2:∀ (O:Alg) (l:O.L),XL (O:=O) P { gam:=[] } 6 (LU T fn) true (UL fn) (DZ e l) (UV P (fun _=>true) true fn)=O.j (O.u (O.m (O.ad (O.ae []) l)) b) (O.a [.rows (O.ad (O.ae []) l)]))
    {E':Env} {N':Nat} (h:∀ ls,E' f [] ls=ID b ls):VV P E' N' ⟨f,[],true,true,[],[]⟩:=by
  unfold YP at hok
  split at hok
  case h_2=>cases hok
  rename_i c hbody;simp only [zzk] at hok;obtain ⟨⟨⟨⟨⟨k1,k2⟩,k3⟩,k4⟩,k5⟩,k6⟩:=hok;have k5:=Nat.le_of_ble_eq_true k5;have k6:=Dq.1 k6;obtain ⟨⟨nb,tail⟩,hpc⟩:=Option.isSome_iff_exists.1 k1;have hnb:JY T fn=nb:=by simp [JY,hbody,hpc]
  have htl:LU T fn=tail:=by simp [LU,hbody,hpc]
  rw [hnb] at k2 k4;rw [htl] at k3;have main : ∀ own', (own' = true → true = true) → ∀ (ls rs : List PV), E' f [] ls = some rs → ∀ fn', P.funcs[f]? = some fn' → ∀ (vs : List (AV (std E' N'))) (hs : List (Nat × HEnt (std E' N'))), Ab (O := std E' N') P [] 1 fn'.params.toList [] (ls.map PV.leaf) = some (vs, hs) →
      ∀ (n0:Nz) (σ:Nat→Option (Nat×Nat)) (w:World) (args:List Value),n0.n=w.heap.size→Mem P n0 noB σ (AL hs) w→RelArgs P n0 noB σ (AL hs) w vs args→Kept P noB σ (AL hs) w→Calls P f args.toArray w (Ret (E:=E') (N:=N') P ⟨f,[],own',true,[],[]⟩ n0 σ (AL hs) w fn' rs) :=
    fun own' ho ls rs he fn' hfn' vs hs hv n0 σ w args hn0 m hr hkp=>by
      rw [hfn] at hfn';cases hfn';rw [h] at he;unfold ID at he
      split at he
      case h_2=>cases he
      rename_i l
      split at he
      case h_2=>cases he
      rename_i hsm;cases he;unfold QQ at hsm;have hsm:=of_decide_eq_true hsm;refine Xy (cfg:={ gam:=[] }) hmix ⟨fun ci hm=>by simp at hm,fun b hm=>by simp at hm⟩ (fun _ _=>rfl) hfn k6 hT hbody hpc k2 k3 k4 k5 (lv:=UL fn) (fun hl=>?_) ?_ hv hn0 m hkp hr
      · rw [← hnb,h1,hl];rfl
      · rw [← htl,h2];have:(decide ((0:Int)≤((([]++l:Rows).length:Nat):Int)∧((([]++l:Rows).length:Nat):Int)≤17592186044416∧((([]++l:Rows).length:Nat):Int) * (b:Int)≤17592186044416∧b≤1048576))=true:=by
          simp only [List.nil_append,decide_eq_true_eq];refine ⟨by omega,by omega,?_,hb⟩;have:=hsm.2;rw [← Int.natCast_mul];omega
        show cond (decide ((0:Int)≤((([]++l:Rows).length:Nat):Int)∧((([]++l:Rows).length:Nat):Int)≤17592186044416∧((([]++l:Rows).length:Nat):Int) * (b:Int)≤17592186044416∧b≤1048576)) (some [PV.rows ([]++l)]) none=_;rw [this];rfl
  exact ⟨Bv (ci:=⟨f,[],true,true,[],[]⟩) (main true (fun _=>rfl)),Bv (ci:=⟨f,[],false,true,[],[]⟩) (main false (fun _=>rfl))⟩
open Go.RowKit
def W7 (ls:List PV):Option (List PV):=match ls with
 | [.str s,.int c]=>some [.int (Lib.indexByte s.data.toList c.toNat.toUInt8)]
 | _=>none
theorem Xx {P : Program} {f : FuncId} {T5 T9 T3 : TypeId} {fn : Func} (hfn : P.funcs[f]? = some fn) (hp : fn.params = #[T9, T5]) (hr : fn.resultTypes = #[T3]) (h9 : P.underlying T9 = some .string) (h5 : P.underlying T5 = some (.int .u8)) (h3 : P.underlying T3 = some (.int .i64)) (h3t : AM P T3 = some [T3])
    (hc:∀ (s:ByteArray) (c:Int) (w:World),Calls P f #[.string s,.int .u8 c] w fun e w'=>e=.returned (.int .i64 (Lib.indexByte s.data.toList c.toNat.toUInt8))∧w'=w)
    {E':Env} {N':Nat} (h:∀ ls,E' f [] ls=W7 ls):VV P E' N' ⟨f,[],true,true,[],[]⟩:=by
  have l9:AG P T9=.str:=by simp [AG,h9]
  have l5:AG P T5=.int .u8:=by simp [AG,h5]
  have l3:AG P T3=.int .i64:=by simp [AG,h3]
  have a3:AN P T3=false:=by simp [AN,h3]
  have a5:AN P T5=false:=by simp [AN,h5]
  have a9:AN P T9=false:=by simp [AN,h9]
  have ty:∀ {T:TypeId} {x:List TypeId} {d:TypeDesc},P.underlying T=some d→(∀ k,A4 P (k+1) T=some [T])→AM P T=some x→x=[T]:=fun {T x d} _ hk hx=>by
    unfold AM at hx;rw [show Bh=19+1 from rfl,hk] at hx;simp only at hx
    split at hx
    · cases hx;rfl
    · cases hx
  have main : ∀ own', ∀ (ls rs : List PV), E' f [] ls = some rs → ∀ fn', P.funcs[f]? = some fn' → ∀ (vs : List (AV (std E' N'))) (hs : List (Nat × HEnt (std E' N'))), Ab (O := std E' N') P [] 1 fn'.params.toList [] (ls.map PV.leaf) = some (vs, hs) →
      ∀ (n0:Nz) (σ:Nat→Option (Nat×Nat)) (w:World) (args:List Value),n0.n=w.heap.size→Mem P n0 noB σ (AL hs) w→RelArgs P n0 noB σ (AL hs) w vs args→Kept P noB σ (AL hs) w→Calls P f args.toArray w (Ret (E:=E') (N:=N') P ⟨f,[],own',true,[],[]⟩ n0 σ (AL hs) w fn' rs) :=
    fun own' ls rs he fn' hfn' vs hs hv n0 σ w args hn0 m hra hkp=>by
      rw [hfn] at hfn';cases hfn';rw [h] at he;unfold W7 at he
      split at he
      case h_2=>cases he
      rename_i s c;cases he;rw [hp] at hv;have hT9:AM P T9=none∨AM P T9=some [T9]:=by
        cases hx:AM P T9 with
        | none=>exact .inl rfl
        | some x=>exact .inr (by rw [ty h9 (fun k=>by simp [A4,h9]) hx])
      have hT5:AM P T5=none∨AM P T5=some [T5]:=by
        cases hx:AM P T5 with
        | none=>exact .inl rfl
        | some x=>exact .inr (by rw [ty h5 (fun k=>by simp [A4,h5]) hx])
      unfold Ab at hv;simp only [l9] at hv
      rcases hT9 with hT9 | hT9
      · simp [hT9] at hv
      simp only [hT9,List.map_cons,List.map_nil,PV.leaf,AU,l9,Option.map_some] at hv;unfold Ab at hv;simp only [l5] at hv
      rcases hT5 with hT5 | hT5
      · simp [hT5] at hv
      simp [hT5,AU,l5,Ab,a9,a5] at hv;obtain ⟨rfl,rfl⟩:=hv;obtain ⟨v1,v2,rfl⟩:∃ v1 v2,args=[v1,v2]:=by
        have:=hra.len
        match args,this with
        | [v1,v2],_=>exact ⟨v1,v2,rfl⟩
      obtain ⟨q1,q2,_⟩:=hra;have q1:RelVal P n0 noB σ (AL []) w (⟨false,[.str s]⟩:Val (std E' N')) v1:=q1;have q2:RelVal P n0 noB σ (AL []) w (⟨false,[.int .u8 c]⟩:Val (std E' N')) v2:=q2;obtain ⟨g1,g2⟩:=q1;have g2:v1.oneCell'=true:=g2;rw [Al g2] at g1;have e1:v1=.string s:=g1.1;obtain ⟨k1,k2⟩:=q2;have k2:v2.oneCell'=true:=k2;rw [Al k2] at k1;have e2:v2=.int .u8 c:=k1.1;subst e1;subst e2;refine Calls.mono (hc s c w) (fun e w' hp2=>?_);obtain ⟨rfl,rfl⟩:=hp2;refine ⟨rfl,rfl,rfl,Nat.le_refl _,fun _ _ _=>rfl,fun q=>⟨fun _=>none,[⟨false,[.int .i64 _]⟩],[],?_,⟨fun _ _ h=>(by cases h),fun _ _ h=>(by cases h),fun _ _ _ _ _ h=>(by cases h),fun _ _ _ _ _ _ _ h=>(by cases h),fun _ _ _ _ _ _ h=>(by cases h)⟩,⟨⟨rfl,trivial⟩,rfl⟩,fun b hb=>?_⟩⟩
      · rw [hr];simp [Aq,h3t,AW,l3,a3];rfl
      · rcases hb with ⟨_,_,hx,_⟩ | ⟨_,_,_,hx,_⟩
        · cases hx
        · cases hx
  exact ⟨Bv (ci:=⟨f,[],true,true,[],[]⟩) (main true),Bv (ci:=⟨f,[],false,true,[],[]⟩) (main false)⟩
end Go.Px
end
section
namespace Go.Px
def cI (n:Nat):CI:=⟨n,[],true,true,[],[]⟩
def Vd (P:Program) (n:Nat) (c:Nat→List PV→Option (List PV)):Prop:=∀ {E:Env} {M:Nat} (N:Nat),(∀ ls,E n [] ls=c N ls)→VV P E M (cI n)
def eL (l:List (Nat×(Nat→List PV→Option (List PV)))) (N:Nat):Env:=fun f fns ls=>match l with
 | []=>none
 | p::r=>cond (Nat.beq f p.1&&A6 fns []) (p.2 N ls) (eL r N f fns ls)
def oS (ks:List Nat) (t:∀ O:Alg,Ags O→O.M) (env:Nat→Env) (N:Nat) (ls:List PV):Option (List PV):=HV ks ls (t (std (env N) N) (xOf ls))
inductive Gs (P:Program):List (Nat×(Nat→List PV→Option (List PV)))→Prop
 | nil:Gs P []
 | cons {n:Nat} {c:Nat→List PV→Option (List PV)} {l:List (Nat×(Nat→List PV→Option (List PV)))} (h:Vd P n c) (t:Gs P l):Gs P ((n,c)::l)
theorem g0 {P:Program}:Gs P []:=.nil
theorem gs {P:Program} {n:Nat} {c:Nat→List PV→Option (List PV)} {l:List (Nat×(Nat→List PV→Option (List PV)))} (h:Vd P n c) (t:Gs P l):Gs P ((n,c)::l):=.cons h t
def FN:List Nat→Bool
 | []=>true
 | n::l=>l.all (fun m => !Nat.beq m n)&&FN l
theorem Zb {l:List (Nat×(Nat→List PV→Option (List PV)))} {N:Nat}:∀ {pre:List (Nat×(Nat→List PV→Option (List PV)))} {n:Nat} {c:Nat→List PV→Option (List PV)} {ls:List PV},pre.all (fun p => !Nat.beq n p.1)=true→eL (pre++(n,c)::l) N n [] ls=c N ls
 | [],n,c,ls,_=>by
  show cond (Nat.beq n n&&true) (c N ls) _=_;rw [Nat.beq_refl];rfl
 | p::pre,n,c,ls,h=>by
  rw [List.all_cons,zzk] at h;have h1:Nat.beq n p.1=false:=by
   have:=h.1;simpa using this
  show cond (Nat.beq n p.1&&true) _ (eL (pre++(n,c)::l) N n [] ls)=_;rw [h1];exact Zb h.2
theorem aB {P:Program} {N:Nat}:∀ {l:List (Nat×(Nat→List PV→Option (List PV)))} {pre:List (Nat×(Nat→List PV→Option (List PV)))},Gs P l→(∀ p∈l,pre.all (fun q => !Nat.beq p.1 q.1)=true)→FN (l.map (·.1))=true→∀ ci∈l.map (fun p=>cI p.1),VV P (eL (pre++l) N) N ci
 | [],_,_,_,_,ci,h=>by cases h
 | (n,c)::l,pre,.cons hv ht,hp,ha,ci,h=>by
  rw [List.map_cons,List.mem_cons] at h
  rcases h with h | h
  ·subst h;exact hv N (fun ls=>Zb (hp (n,c) (zzm ..)))
  ·simp only [List.map_cons,FN,zzk] at ha;have:=aB (N:=N) (pre:=pre++[(n,c)]) ht (fun p hm=>by
    rw [List.all_append,hp p (zzn _ hm),Bool.true_and];have h1:=List.all_eq_true.1 ha.1 p.1 (List.mem_map.2 ⟨p,hm,rfl⟩);simpa using h1) ha.2 ci h
   rw [List.append_assoc] at this;exact this
theorem vti {P : Program} (hmix : P.follows .mixedOrders = true) (imm old : Bool) (ie : List Nat) {n : Nat} {c : Nat → List PV → Option (List PV)} (ks : List Nat) (t : ∀ O : Alg, Ags O → O.M) (l : List (Nat × (Nat → List PV → Option (List PV)))) (hg : Gs P l) (ha : FN (l.map (·.1)) = true)
    (hc:∀ N ls,c N ls=HV ks ls (t (std (eL l N) N) (xOf ls)))
    (hx:∀ (O:Alg) (x:Ags O),XF (O:=O) P { gam:=l.map (fun p=>cI p.1),imm:=imm,old:=old,ie:=ie } (fun _=>true) true [] n [] (xr x ks 0)=t O x):Vd P n c:=fun N h =>
  K9 hmix (E:=eL l N) (N:=N) (cfg:={ gam:=l.map (fun p=>cI p.1),imm:=imm,old:=old,ie:=ie }) (ci:=cI n) (aB (pre:=[]) hg (fun _ _=>rfl) ha) (hc N) (fun ls=>hx _ _) h
theorem vt {P : Program} (hmix : P.follows .mixedOrders = true) {n : Nat} {c : Nat → List PV → Option (List PV)} (ks : List Nat) (t : ∀ O : Alg, Ags O → O.M) (l : List (Nat × (Nat → List PV → Option (List PV)))) (hg : Gs P l) (ha : FN (l.map (·.1)) = true)
    (hc:∀ N ls,c N ls=HV ks ls (t (std (eL l N) N) (xOf ls)))
    (hx:∀ (O:Alg) (x:Ags O),XF (O:=O) P { gam:=l.map (fun p=>cI p.1) } (fun _=>true) true [] n [] (xr x ks 0)=t O x):Vd P n c:=vti hmix false false [] ks t l hg ha hc hx
theorem vE {P:Program} {n:Nat} {c:Nat→List PV→Option (List PV)} (v:Vd P n c) {E:Env} {M:Nat} (N:Nat) (h:∀ ls,E n [] ls=c N ls):VV P E M (cI n):=v N h
open Go.RowKit
def ab (i:Nat):List UInt8:=cond (Nat.blt i 10) [UInt8.ofNat (48+i)] [UInt8.ofNat (48+i / 10),UInt8.ofNat (48+i % 10)]
theorem dB {i:Nat} (h:i<100):ab i=Lib.decDigits i:=by
 unfold ab;cases hb:Nat.blt i 10 with
 | true =>
  have:i<10:=of_eq_true (Nat.blt_eq▸eq_true hb);rw [Lib.decDigits,dif_pos this];rfl
 | false =>
  have:¬ i<10:=fun hx=>by
   rw [← Nat.blt_eq,hb] at hx;cases hx
  rw [Lib.decDigits,dif_neg this,Lib.decDigits,dif_pos (show i / 10<10 by omega)];rfl
def Gr (l:Rows):List ByteArray:=l.map fun r=>match AE r 0 with
 | .str s=>s
 | _=>⟨#[]⟩
def ZI (ls:List PV):Option (List PV):=match ls with
 | [.rows l,.str sep]=>cond (Nat.ble l.length 1000&&Nat.ble (Lib.join ((Gr l).map (·.data.toList)) sep.data.toList).length 1000000) (some [.str ⟨(Lib.join ((Gr l).map (·.data.toList)) sep.data.toList).toArray⟩]) none
 | _=>none
theorem eC {P:Program} {T:TypeId} {x:List TypeId} (hk:∀ k,A4 P (k+1) T=some [T]) (hx:AM P T=some x):x=[T]:=by
 unfold AM at hx;rw [show Bh=19+1 from rfl,hk] at hx;simp only at hx
 split at hx
 ·cases hx;rfl
 ·cases hx
theorem WE {P:Program} {T:TypeId} (hk:∀ k,A4 P (k+1) T=some [T]):AM P T=none∨AM P T=some [T]:=by
 cases hx:AM P T with
 | none=>exact .inl rfl
 | some x=>exact .inr (by rw [eC hk hx])
theorem Yp {P : Program} {f : FuncId} {T8 T9 : TypeId} {fn : Func} (hfn : P.funcs[f]? = some fn) (hp : fn.params = #[T8, T9]) (hr : fn.resultTypes = #[T9]) (h8 : P.underlying T8 = some (.slice T9)) (h9 : P.underlying T9 = some .string) (h9t : AM P T9 = some [T9])
    (hc0:∀ (a:Option Addr) (c:Nat) (sep:ByteArray) (w:World),Calls P f #[.slice a 0 c,.string sep] w fun e w'=>e=.returned (.string ⟨#[]⟩)∧w'=w)
    (hc:∀ (bk o c:Nat) (xs:List ByteArray) (sep:ByteArray) (w:World),(∀ (j:Nat) x,xs[j]?=some x→w.cell? ⟨bk,o+j,none⟩=some (.string x))→bk<w.heap.size→xs.length≤140737488355328→xs.length≤c→(Lib.join (xs.map (·.data.toList)) sep.data.toList).length≤140737488355328 →
      Calls P f #[.slice (some ⟨bk,o,none⟩) xs.length c,.string sep] w fun e w'=>e=.returned (.string ⟨(Lib.join (xs.map (·.data.toList)) sep.data.toList).toArray⟩)∧Below w.heap.size w w')
    {E':Env} {N':Nat} (h:∀ ls,E' f [] ls=ZI ls):VV P E' N' ⟨f,[],true,true,[],[]⟩:=by
  have l8:AG P T8=.sl T9:=by simp [AG,h8]
  have l9:AG P T9=.str:=by simp [AG,h9]
  have a8:AN P T8=false:=by simp [AN,h8]
  have a9:AN P T9=false:=by simp [AN,h9]
  have main : ∀ own', ∀ (ls rs : List PV), E' f [] ls = some rs → ∀ fn', P.funcs[f]? = some fn' → ∀ (vs : List (AV (std E' N'))) (hs : List (Nat × HEnt (std E' N'))), Ab (O := std E' N') P [] 1 fn'.params.toList [] (ls.map PV.leaf) = some (vs, hs) →
      ∀ (n0:Nz) (σ:Nat→Option (Nat×Nat)) (w:World) (args:List Value),n0.n=w.heap.size→Mem P n0 noB σ (AL hs) w→RelArgs P n0 noB σ (AL hs) w vs args→Kept P noB σ (AL hs) w→Calls P f args.toArray w (Ret (E:=E') (N:=N') P ⟨f,[],own',true,[],[]⟩ n0 σ (AL hs) w fn' rs) :=
    fun own' ls rs he fn' hfn' vs hs hv n0 σ w args hn0 m hra hkp=>by
      rw [hfn] at hfn';cases hfn';rw [h] at he;unfold ZI at he
      split at he
      case h_2=>cases he
      rename_i l sep;cases hb:(Nat.ble l.length 1000&&Nat.ble (Lib.join ((Gr l).map (·.data.toList)) sep.data.toList).length 1000000) with
      | false=>rw [hb] at he;cases he
      | true =>
      rw [hb] at he;rw [zzk] at hb;have hb1:=Nat.le_of_ble_eq_true hb.1;have hb2:=Nat.le_of_ble_eq_true hb.2;cases he;rw [hp] at hv;unfold Ab at hv;simp only [l8] at hv
      rcases WE (P:=P) (T:=T8) (fun k=>by simp [A4,h8]) with hT | hT
      · simp [hT] at hv
      simp only [hT,List.map_cons,List.map_nil,PV.leaf,AU,l8,Option.map_some,List.headD_nil] at hv;unfold Ab at hv;simp only [l9] at hv;simp [h9t,AU,l9,Ab,a8,a9] at hv;obtain ⟨rfl,rfl⟩:=hv;obtain ⟨v1,v2,rfl⟩:∃ v1 v2,args=[v1,v2]:=by
        have:=hra.len
        match args,this with
        | [v1,v2],_=>exact ⟨v1,v2,rfl⟩
      obtain ⟨q1,q2,_⟩:=hra;have q1:RelVal P n0 noB σ (AL []) w (⟨false,[.imm T9 false l]⟩:Val (std E' N')) v1:=q1;have q2:RelVal P n0 noB σ (AL []) w (⟨false,[.str sep]⟩:Val (std E' N')) v2:=q2;obtain ⟨g1,g2⟩:=q1;have g2:v1.oneCell'=true:=g2;rw [Al g2] at g1;obtain ⟨t,ht,hrep⟩:=g1.1;obtain ⟨k1,k2⟩:=q2;have k2:v2.oneCell'=true:=k2;rw [Al k2] at k1;have e2:v2=.string sep:=k1.1;subst e2;have fin:∀ e w',(e=Ending.returned (.string ⟨(Lib.join ((Gr l).map (·.data.toList)) sep.data.toList).toArray⟩)∧Below w.heap.size w w')→Ret (E:=E') (N:=N') P ⟨f,[],own',true,[],[]⟩ n0 σ (AL []) w fn [.str ⟨(Lib.join ((Gr l).map (·.data.toList)) sep.data.toList).toArray⟩] e w':=by
        intro e w' hp2;obtain ⟨rfl,hb⟩:=hp2;refine ⟨hb.os,hb.tape,hb.output,hb.size,fun b hlt _=>hb.block b hlt,fun q=>⟨fun _=>none,[⟨false,[.str _]⟩],[],?_,⟨fun _ _ h=>(by cases h),fun _ _ h=>(by cases h),fun _ _ _ _ _ h=>(by cases h),fun _ _ _ _ _ _ _ h=>(by cases h),fun _ _ _ _ _ _ h=>(by cases h)⟩,⟨⟨rfl,trivial⟩,rfl⟩,fun b hb=>?_⟩⟩
        · rw [hr];simp [Aq,h9t,AW,l9,a9];rfl
        · rcases hb with ⟨_,_,hx,_⟩ | ⟨_,_,_,hx,_⟩
          · cases hx
          · cases hx
      cases hrep with
      | @sl _ e ts a len cap _ v hk hts hl hr2 hcap hm hv =>
        rw [ht] at hk;cases hk;rw [h9t] at hts;cases hts;have hsl:(Gr l).length=len:=by unfold Gr;rw [List.length_map];exact hl
        rcases hm with hm | ⟨b,off,ha,_,hlt,hcell⟩
        · subst hm;have hnil:=List.eq_nil_of_length_eq_zero hl;subst hnil;exact (hc0 a cap sep w).mono fun e w' hp2=>fin e w' ⟨hp2.1,hp2.2▸Below.refl _ _⟩
        · obtain ⟨b,bc⟩:=b;have hlt:=hlt.1;subst ha;have hcl:=hc b off cap (Gr l) sep w (fun j x hx=>by
            have hj:j<len:=by
              obtain ⟨hj,_⟩:=List.getElem?_eq_some_iff.1 hx;omega
            have h1:=hcell j 0 hj (by simp);have h2:=hv j 0 T9 hj rfl;rw [show off+(j * [T9].length+0)=off+j by simp] at h1;rw [h1];have h3:x=(match AP l j 0 with | .str s=>s | _=>⟨#[]⟩):=by
              unfold Gr at hx;rw [List.getElem?_map] at hx;unfold AP AR;rw [zzl];have hjl:j<l.length:=by omega
              rw [zzo hjl] at hx ⊢;exact (Option.some.inj hx).symm
            generalize AP l j 0=p at h2 h3;generalize v j 0=u at h2 ⊢;cases h2 with
            | int hk=>rw [l9] at hk;cases hk
            | bool hk=>rw [l9] at hk;cases hk
            | str hk=>rw [h3]
            | sl _ hk=>rw [l9] at hk;cases hk) hlt (by omega) (by omega) (by omega)
          rw [hsl] at hcl;exact hcl.mono fin
  exact ⟨Bv (ci:=⟨f,[],true,true,[],[]⟩) (main true),Bv (ci:=⟨f,[],false,true,[],[]⟩) (main false)⟩
end Go.Px
end
section
namespace Go.Px
open Go.RowKit Go.Sort
def UI (i:Int):Option (List PV):=cond (decide (-9223372036854775808≤i)&&decide (i≤9223372036854775807)) (cond (decide (0≤i)&&decide (i<100)) (some [.str ⟨(ab i.toNat).toArray⟩]) (some [.str ⟨(Lib.itoa i).toArray⟩])) none
def Yr (ls:List PV):Option (List PV):=match ls with
 | [.int i]=>UI i
 | _=>none
def bO (ls:List PV):Option (List PV):=match ls with
 | [.int i,.int b]=>cond (b==10) (UI i) none
 | _=>none
theorem aS (n:Nat):Lib.itoa (n:Int)=Lib.decDigits n:=by
 unfold Lib.itoa;rw [if_neg (by omega),Int.toNat_natCast]
theorem bF {i:Int} (h0 : -9223372036854775808≤i) (h:i≤9223372036854775807):UI i=some [.str ⟨(Lib.itoa i).toArray⟩]:=by
 unfold UI;rw [decide_eq_true h0,decide_eq_true h];show cond (decide (0≤i)&&decide (i<100)) _ _=_
 by_cases hz:0≤i
 ·by_cases hs:i<100
  ·rw [decide_eq_true hz,decide_eq_true hs];obtain ⟨n,rfl⟩:∃ n:Nat,i=n:=⟨i.toNat,by omega⟩;rw [aS,Int.toNat_natCast,dB (by omega)];rfl
  ·rw [decide_eq_true hz,decide_eq_false hs];rfl
 ·rw [decide_eq_false hz];rfl
theorem Vn {i:Int} {rs:List PV} (h:UI i=some rs) : -9223372036854775808≤i∧i≤9223372036854775807∧rs=[.str ⟨(Lib.itoa i).toArray⟩]:=by
 cases hb:(decide (-9223372036854775808≤i)&&decide (i≤9223372036854775807)) with
 | false=>unfold UI at h;rw [hb] at h;cases h
 | true =>
  rw [zzk,decide_eq_true_eq,decide_eq_true_eq] at hb;rw [bF hb.1 hb.2] at h;exact ⟨hb.1,hb.2,(Option.some.inj h).symm⟩
theorem Xi {P : Program} {f : FuncId} {T3 T9 : TypeId} {fn : Func} (hfn : P.funcs[f]? = some fn) (hp : fn.params = #[T3]) (hr : fn.resultTypes = #[T9]) (h3 : P.underlying T3 = some (.int .i64)) (h9 : P.underlying T9 = some .string) (h9t : AM P T9 = some [T9])
    (hg:(P.globalNamed Ez).isSome=true) (hc:∀ (i:Int),-9223372036854775808≤i→i≤9223372036854775807→∀ w:World,Lib.TabIs P w Ez .u64 Mx→Calls P f #[.int .i64 i] w fun e w'=>e=.returned (.string ⟨(Lib.itoa i).toArray⟩)∧∃ k os,w'=grow (w.drewN k) os)
    {E':Env} {N':Nat} (h:∀ ls,E' f [] ls=Yr ls):VV P E' N' ⟨f,[],true,true,[],[]⟩:=by
  have l3:AG P T3=.int .i64:=by simp [AG,h3]
  have l9:AG P T9=.str:=by simp [AG,h9]
  have a3:AN P T3=false:=by simp [AN,h3]
  have a9:AN P T9=false:=by simp [AN,h9]
  have main : ∀ own', ∀ (ls rs : List PV), E' f [] ls = some rs → ∀ fn', P.funcs[f]? = some fn' → ∀ (vs : List (AV (std E' N'))) (hs : List (Nat × HEnt (std E' N'))), Ab (O := std E' N') P [] 1 fn'.params.toList [] (ls.map PV.leaf) = some (vs, hs) →
      ∀ (n0:Nz) (σ:Nat→Option (Nat×Nat)) (w:World) (args:List Value),n0.n=w.heap.size→Mem P n0 noB σ (AL hs) w→RelArgs P n0 noB σ (AL hs) w vs args→Kept P noB σ (AL hs) w→Calls P f args.toArray w (Ret (E:=E') (N:=N') P ⟨f,[],own',true,[],[]⟩ n0 σ (AL hs) w fn' rs) :=
    fun own' ls rs he fn' hfn' vs hs hv n0 σ w args hn0 m hra hkp=>by
      rw [hfn] at hfn';cases hfn';rw [h] at he;unfold Yr at he
      split at he
      case h_2=>cases he
      rename_i n;obtain ⟨hn0,hn,rfl⟩:=Vn he;rw [hp] at hv;unfold Ab at hv;simp only [l3] at hv
      rcases WE (P:=P) (T:=T3) (fun k=>by simp [A4,h3]) with hT | hT
      · simp [hT] at hv
      simp [hT,PV.leaf,AU,l3,Ab,a3] at hv;obtain ⟨rfl,rfl⟩:=hv;obtain ⟨v1,rfl⟩:∃ v1,args=[v1]:=by
        have:=hra.len
        match args,this with
        | [v1],_=>exact ⟨v1,rfl⟩
      obtain ⟨q1,_⟩:=hra;have q1:RelVal P n0 noB σ (AL []) w (⟨false,[.int .i64 n]⟩:Val (std E' N')) v1:=q1;obtain ⟨g1,g2⟩:=q1;have g2:v1.oneCell'=true:=g2;rw [Al g2] at g1;have e1:v1=.int .i64 n:=g1.1;subst e1;obtain ⟨g0,hg0⟩:=Option.isSome_iff_exists.1 hg;refine Calls.mono (hc n hn0 hn w (hkp g0 hg0).1) (fun e w' hp2=>?_);obtain ⟨rfl,kk,os,rfl⟩:=hp2;refine ⟨rfl,rfl,rfl,by simp [grow,World.drewN],fun b hb _=>by simp [grow,World.drewN,Array.getElem?_append_left hb],fun q=>⟨fun _=>none,[⟨false,[.str _]⟩],[],?_,⟨fun _ _ h=>(by cases h),fun _ _ h=>(by cases h),fun _ _ _ _ _ h=>(by cases h),fun _ _ _ _ _ _ _ h=>(by cases h),fun _ _ _ _ _ _ h=>(by cases h)⟩,⟨⟨rfl,trivial⟩,rfl⟩,fun b hb=>?_⟩⟩
      · rw [hr];simp [Aq,h9t,AW,l9,a9];rfl
      · rcases hb with ⟨_,_,hx,_⟩ | ⟨_,_,_,hx,_⟩
        · cases hx
        · cases hx
  exact ⟨Bv (ci:=⟨f,[],true,true,[],[]⟩) (main true),Bv (ci:=⟨f,[],false,true,[],[]⟩) (main false)⟩
theorem Yf {P : Program} {f : FuncId} {T2 T3 T9 : TypeId} {fn : Func} (hfn : P.funcs[f]? = some fn) (hp : fn.params = #[T2, T3]) (hr : fn.resultTypes = #[T9]) (h2 : P.underlying T2 = some (.int .i64)) (h3 : P.underlying T3 = some (.int .i64)) (h9 : P.underlying T9 = some .string) (h9t : AM P T9 = some [T9])
    (hg:(P.globalNamed Ez).isSome=true) (hc:∀ (i:Int),-9223372036854775808≤i→i≤9223372036854775807→∀ w:World,Lib.TabIs P w Ez .u64 Mx→Calls P f #[.int .i64 i,.int .i64 10] w fun e w'=>e=.returned (.string ⟨(Lib.itoa i).toArray⟩)∧∃ k os,w'=grow (w.drewN k) os)
    {E':Env} {N':Nat} (h:∀ ls,E' f [] ls=bO ls):VV P E' N' ⟨f,[],true,true,[],[]⟩:=by
  have l2:AG P T2=.int .i64:=by simp [AG,h2]
  have l3:AG P T3=.int .i64:=by simp [AG,h3]
  have l9:AG P T9=.str:=by simp [AG,h9]
  have a2:AN P T2=false:=by simp [AN,h2]
  have a3:AN P T3=false:=by simp [AN,h3]
  have a9:AN P T9=false:=by simp [AN,h9]
  have main : ∀ own', ∀ (ls rs : List PV), E' f [] ls = some rs → ∀ fn', P.funcs[f]? = some fn' → ∀ (vs : List (AV (std E' N'))) (hs : List (Nat × HEnt (std E' N'))), Ab (O := std E' N') P [] 1 fn'.params.toList [] (ls.map PV.leaf) = some (vs, hs) →
      ∀ (n0:Nz) (σ:Nat→Option (Nat×Nat)) (w:World) (args:List Value),n0.n=w.heap.size→Mem P n0 noB σ (AL hs) w→RelArgs P n0 noB σ (AL hs) w vs args→Kept P noB σ (AL hs) w→Calls P f args.toArray w (Ret (E:=E') (N:=N') P ⟨f,[],own',true,[],[]⟩ n0 σ (AL hs) w fn' rs) :=
    fun own' ls rs he fn' hfn' vs hs hv n0 σ w args hn0 m hra hkp=>by
      rw [hfn] at hfn';cases hfn';rw [h] at he;unfold bO at he
      split at he
      case h_2=>cases he
      rename_i n b;cases hb10:b==10 with
      | false=>rw [hb10] at he;cases he
      | true =>
      rw [hb10] at he;have hb:=beq_iff_eq.1 hb10;subst hb;obtain ⟨hn0,hn,rfl⟩:=Vn he;rw [hp] at hv;unfold Ab at hv;simp only [l2] at hv
      rcases WE (P:=P) (T:=T2) (fun k=>by simp [A4,h2]) with hT | hT
      · simp [hT] at hv
      simp only [hT,List.map_cons,List.map_nil,PV.leaf,AU,l2,Option.map_some] at hv;unfold Ab at hv;simp only [l3] at hv
      rcases WE (P:=P) (T:=T3) (fun k=>by simp [A4,h3]) with hT3 | hT3
      · simp [hT3] at hv
      simp [hT3,AU,l3,Ab,a2,a3] at hv;obtain ⟨rfl,rfl⟩:=hv;obtain ⟨v1,v2,rfl⟩:∃ v1 v2,args=[v1,v2]:=by
        have:=hra.len
        match args,this with
        | [v1,v2],_=>exact ⟨v1,v2,rfl⟩
      obtain ⟨q1,q2,_⟩:=hra;have q1:RelVal P n0 noB σ (AL []) w (⟨false,[.int .i64 n]⟩:Val (std E' N')) v1:=q1;have q2:RelVal P n0 noB σ (AL []) w (⟨false,[.int .i64 (10:Int)]⟩:Val (std E' N')) v2:=q2;obtain ⟨g1,g2⟩:=q1;have g2:v1.oneCell'=true:=g2;rw [Al g2] at g1;have e1:v1=.int .i64 n:=g1.1;obtain ⟨k1,k2⟩:=q2;have k2:v2.oneCell'=true:=k2;rw [Al k2] at k1;have e2:v2=.int .i64 10:=k1.1;subst e1;subst e2;obtain ⟨g0,hg0⟩:=Option.isSome_iff_exists.1 hg;refine Calls.mono (hc n hn0 hn w (hkp g0 hg0).1) (fun e w' hp2=>?_);obtain ⟨rfl,kk,os,rfl⟩:=hp2;refine ⟨rfl,rfl,rfl,by simp [grow,World.drewN],fun b hb _=>by simp [grow,World.drewN,Array.getElem?_append_left hb],fun q=>⟨fun _=>none,[⟨false,[.str _]⟩],[],?_,⟨fun _ _ h=>(by cases h),fun _ _ h=>(by cases h),fun _ _ _ _ _ h=>(by cases h),fun _ _ _ _ _ _ _ h=>(by cases h),fun _ _ _ _ _ _ h=>(by cases h)⟩,⟨⟨rfl,trivial⟩,rfl⟩,fun b hb=>?_⟩⟩
      · rw [hr];simp [Aq,h9t,AW,l9,a9];rfl
      · rcases hb with ⟨_,_,hx,_⟩ | ⟨_,_,_,hx,_⟩
        · cases hx
        · cases hx
  exact ⟨Bv (ci:=⟨f,[],true,true,[],[]⟩) (main true),Bv (ci:=⟨f,[],false,true,[],[]⟩) (main false)⟩
end Go.Px
end
section
namespace Go.Px
def nMx (r:List PV):List PV:=[.str (pvS (AE r 0)),.int (pvI (AE r 1)),.int (pvI (AE r 2)),.int (pvI (AE r 3)),.int (pvI (AE r 4)),.int (pvI (AE r 5)),.int (pvI (AE r 6)),.int (pvI (AE r 7)),.bool (pvB (AE r 8)),.int (pvI (AE r 9)),.int (pvI (AE r 10)),.int (pvI (AE r 11)),.int (pvI (AE r 12)),.rows (pvL (AE r 13)),
 .int (pvI (AE r 14)),.int (pvI (AE r 15)),.bool (pvB (AE r 16)),.rows (pvL (AE r 17)),.int (pvI (AE r 18)),.int (pvI (AE r 19)),.int (pvI (AE r 20)),.int (pvI (AE r 21)),.int (pvI (AE r 22))]
def J5 (rs:List PV):Bool:=(decide ((pvL (AE rs 17)).length≤1000000)&&decide ((pvL (AE rs 13)).length≤1000000))&&(pvL (AE rs 17)).all fun r=>decide ((pvL (AE r 14)).length≤1000000)&&decide ((pvL (AE r 19)).length≤1000000)
def QR (E:Env) (ls:List PV):Option (List PV) :=
  (E 4 [] []).bind fun r4=>cond (pvB (AE r4 0)) ((E 5 [] (nMx ls)).bind fun r5=>(E 6 [] (nMx r5)).bind fun r6=>(E 7 [] (nMx r5)).bind fun r7=>cond (J5 r7) (some ()) none |>.bind fun _=>(E 8 [] (nMx r7++nMx r5)).bind fun r8 =>
    cond (pvB (AE r8 0)) ((E 9 [] (nMx r5++nMx r6)).map fun r9=>[.bool (pvB (AE r9 0))]) (some [.bool false])) (some [.bool false])
def rB (xs:List Bool):Rows:=xs.map fun n=>[PV.bool n]
theorem d9 {n:Int} (h1 : -9223372036854775808≤n) (h2:n≤9223372036854775807):IntKind.i64.wrap n=n:=by
 unfold IntKind.wrap;simp [IntKind.signed,IntKind.bits];omega
theorem A7 (b:Bool) (x y:List PV) (k:List PV→Option (List PV)):(cond b (some x) (some y):Option (List PV)).bind k=k (cond b x y):=by cases b<;>rfl
theorem eF (b:Bool) (x y:List PV) (j:Nat):pvB (AE (cond b x y) j)=cond b (pvB (AE x j)) (pvB (AE y j)):=by cases b<;>rfl
theorem eN (b:Bool) (x y:List PV) (j:Nat):pvI (AE (cond b x y) j)=cond b (pvI (AE x j)) (pvI (AE y j)):=by cases b<;>rfl
theorem eE (b:Bool) (x y:List PV) (j:Nat):pvS (AE (cond b x y) j)=cond b (pvS (AE x j)) (pvS (AE y j)):=by cases b<;>rfl
theorem eS (b:Bool) (x y:List PV) (j:Nat):pvL (AE (cond b x y) j)=cond b (pvL (AE x j)) (pvL (AE y j)):=by cases b<;>rfl
theorem eH (b p:Bool):cond b p false=(b&&p):=by cases b<;>rfl
theorem ee (b p:Bool):cond b true p=(b||p):=by cases b<;>rfl
theorem da (b p:Bool):cond b false p=(!b&&p):=by cases b<;>rfl
theorem eI (b p:Bool):cond b p true=(!b||p):=by cases b<;>rfl
theorem dc (b:Bool) (x y:List PV):cond b (some x) (some y)=some (cond b x y):=by cases b<;>rfl
theorem dh {α:Type} (b:Bool) (x:α):cond b x x=x:=by cases b<;>rfl
theorem dp (b p q:Bool):cond b [PV.bool p] [PV.bool q]=[PV.bool (cond b p q)]:=by cases b<;>rfl
theorem Zt (p:PV) (r:List PV) (j:Nat):AE (p::r) (j+1)=AE r j:=by simp [AE]
theorem Br {F:(List AZ→Option (List PV))→List PV→Option (List PV)} {n:Nat} {c r:List PV} {k:List PV→Option (List PV)} {g:Option (List PV)} (h:Fm F n c=some r) (hk:k r=g):(Fm F n c).bind k=g:=by
 rw [h];exact hk
def Qb (ans:Nat→Option (List PV)):Nat→Nat→Option (List PV)
 | 0,_=>none
 | k+1,i=>match ans i with
  | some r=>some r
  | none=>Qb ans k (i+1)
def eX:Option (List PV)→List PV
 | some r=>.int 0::r
 | none=>[.int 1]
theorem VN {F : (List AZ → Option (List PV)) → List PV → Option (List PV)} {len : Nat} (ans : Nat → Option (List PV))
    (h0:∀ self,F self [.int (len:Int)]=some [.int 1]) (h1:∀ i self,i<len→F self [.int (i:Int)]=match ans i with | some r=>some (.int 0::r) | none=>self [.int ((i:Int)+1)]) :
    ∀ (k i n:Nat),i+k=len→k<n→Fm F n [.int (i:Int)]=some (eX (Qb ans k i))
  | 0,i,n,hk,hn=>by
    obtain ⟨n,rfl⟩:∃ m,n=m+1:=⟨n - 1,by omega⟩;obtain rfl:i=len:=by omega
    exact h0 _
  | k+1,i,n,hk,hn=>by
    obtain ⟨n,rfl⟩:∃ m,n=m+1:=⟨n - 1,by omega⟩;have h2:=h1 i (fun ls=>Fm F n (ls.map Leaf.pv)) (by omega);show F _ _=_;rw [h2];simp only [Qb];cases ha:ans i with
    | some r=>rfl
    | none =>
      have:=VN ans h0 h1 k (i+1) n (by omega) (by omega);show Fm F n [.int ((i:Int)+1)]=_;rw [show ((i:Int)+1)=(((i+1:Nat)):Int) by omega];exact this
def CH (bad:Nat→Bool) (k i:Nat):Bool:=(List.range' i k).any bad
theorem Z7 (bad:Nat→Bool) (i:Nat):CH bad 0 i=false:=rfl
theorem O5 (bad:Nat→Bool) (k i:Nat):CH bad (k+1) i=(bad i||CH bad k (i+1)):=by simp only [CH,List.range'_succ,List.any_cons]
theorem Vl (bad:Nat→Bool) (r:List PV):∀ (k i:Nat),Qb (fun j=>cond (bad j) (some r) none) k i=cond (CH bad k i) (some r) none
 | 0,i=>rfl
 | k+1,i=>by
  rw [O5];simp only [Qb];cases hb:bad i with
  | true=>rfl
  | false=>rw [Bool.false_or];exact Vl bad r k (i+1)
theorem M4 {f:Nat→Bool} {k i:Nat}:CH f k i=false↔∀ j,i≤j→j<i+k→f j=false:=by
 induction k generalizing i with
 | zero=>simp [Z7];intro j h1 h2;omega
 | succ k ih =>
  rw [O5,Bool.or_eq_false_iff,ih];constructor
  ·intro ⟨h1,h2⟩ j h3 h4
   rcases Nat.lt_or_ge i j with h | h
   ·exact h2 j h (by omega)
   ·obtain rfl:j=i:=by omega
    exact h1
  ·intro h;exact ⟨h i (Nat.le_refl _) (by omega),fun j h1 h2=>h j (by omega) (by omega)⟩
theorem Hg {F : (List AZ → Option (List PV)) → List PV → Option (List PV)} {len : Nat} (bad : Nat → Bool) (r : List PV)
    (h0:∀ self,F self [.int (len:Int)]=some [.int 1]) (h1:∀ i self,i<len→F self [.int (i:Int)]=cond (bad i) (some (.int 0::r)) (self [.int ((i:Int)+1)])) (n:Nat) (hn:len<n) :
    Fm F n [.int 0]=some (cond (CH bad len 0) (.int 0::r) [.int 1]):=by
  have:=VN (F:=F) (len:=len) (fun j=>cond (bad j) (some r) none) h0 (fun i self hi=>by rw [h1 i self hi];cases bad i<;>rfl) len 0 n (by omega) hn;rw [show (0:Int)=((0:Nat):Int) from rfl,this,Vl];cases CH bad len 0<;>rfl
theorem CF {i:Nat} (h:i≤1099511627776):IntKind.i64.wrap ((i:Int)+1)=(i:Int)+1:=d9 (by omega) (by omega)
theorem Bu {i len:Nat} (h:i<len):iIn (i:Int) (len:Int)=true:=by simp [iIn];omega
theorem DV {i len:Nat} (h:i<len):iLt (i:Int) (len:Int)=true:=by simp [iLt];omega
theorem Du (len:Nat):iLt (len:Int) (len:Int)=false:=by simp [iLt]
theorem aV {F : (List AZ → Option (List PV)) → List PV → Option (List PV)} {len : Nat} (enc : Nat → List AZ) (bad : Nat → Bool) (r fin : List PV)
    (h0:∀ self,F self ((enc len).map Leaf.pv)=some fin) (h1:∀ i self,i<len→F self ((enc i).map Leaf.pv)=cond (bad i) (some r) (self (enc (i+1)))) (n:Nat) (hn:len<n) :
    Fm F n ((enc 0).map Leaf.pv)=some (cond (CH bad len 0) r fin):=by
  have main:∀ (k i n:Nat),i+k=len→k<n→Fm F n ((enc i).map Leaf.pv)=some (cond (CH bad k i) r fin):=by
    intro k
    induction k with
    | zero =>
      intro i n hk hn;obtain ⟨n,rfl⟩:∃ m,n=m+1:=⟨n - 1,by omega⟩;obtain rfl:i=len:=by omega
      exact h0 _
    | succ k ih =>
      intro i n hk hn;obtain ⟨n,rfl⟩:∃ m,n=m+1:=⟨n - 1,by omega⟩;show F _ _=_;rw [h1 i _ (by omega),O5];cases bad i with
      | true=>rfl
      | false=>exact ih (i+1) n (by omega) (by omega)
  exact main len 0 n (by omega) hn
theorem cT (k i:Nat):CH (fun _=>false) k i=false:=M4.2 fun _ _ _=>rfl
theorem Fj {F : (List AZ → Option (List PV)) → List PV → Option (List PV)} {len : Nat} (enc : Nat → List AZ) (fin : List PV)
    (h0:∀ self,F self ((enc len).map Leaf.pv)=some fin) (h1:∀ i self,i<len→F self ((enc i).map Leaf.pv)=self (enc (i+1))) (n:Nat) (hn:len<n) :
    Fm F n ((enc 0).map Leaf.pv)=some fin:=by
  have:=aV (F:=F) enc (fun _=>false) [] fin h0 h1 n hn;rw [cT] at this;exact this
theorem TL {n b:Nat} (h:n≤4194304) (hb:b≤4096):iSm (n:Int) b=true:=by
 have:n * b≤4194304 * 4096:=Nat.mul_le_mul h hb;simp only [iSm,decide_eq_true_eq];refine ⟨by omega,by omega,?_,by omega⟩;rw [← Int.natCast_mul];omega
def atI (L:Rows) (i j:Nat):Int:=pvI (AP L i j)
theorem QX (L:Rows) (i j:Nat):pvI (AP L i j)=atI L i j:=rfl
def YU (p:Nat→Bool):Nat→Int
 | 0=>0
 | i+1=>cond (p i) (YU p i+1) (YU p i)
def bB (p:Int→Bool) (L:Rows):Bool:=CH (fun i=>p (atI L i 0)) L.length 0
theorem PXb : (∀ {α β : Type} (f : α → β) (a : α) (l : List α), List.map f (a :: l) = f a :: List.map f l) ∧ (∀ {α β : Type} (f : α → β), List.map f [] = []) ∧
    (∀ i:Int,Leaf.pv (.int i:AZ)=.int i)∧(∀ i:Bool,Leaf.pv (.bool i:AZ)=.bool i)∧(∀ i:ByteArray,Leaf.pv (.str i:AZ)=.str i)∧(∀ i:Rows,Leaf.pv (.rows i:AZ)=.rows i) ∧
    (∀ {α β:Type} (a:α) (f:α→Option β),(some a).bind f=f a)∧(∀ (p:PV) (r:List PV),AE (p::r) 0=p)∧(∀ (p:PV) (r:List PV) (j:Nat),AE (p::r) (j+1)=AE r j) ∧
    (∀ n:Int,pvI (.int n)=n)∧(∀ n:Bool,pvB (.bool n)=n)∧(∀ n:ByteArray,pvS (.str n)=n)∧(∀ n:Rows,pvL (.rows n)=n) ∧
    (∀ b p:Bool,cond b p false=(b&&p))∧(∀ b p:Bool,cond b true p=(b||p))∧(∀ {α:Type} (a b:α),cond true a b=a)∧(∀ {α:Type} (a b:α),cond false a b=b) ∧
    (∀ a b:Bool,(a&&(a&&b))=(a&&b))∧(∀ a:Bool,(a&&a)=a)∧(∀ a b:Bool,(a||(a||b))=(a||b))∧(∀ a:Bool,(a||a)=a) ∧
    (∀ a:Bool,(a||true)=true)∧(∀ a:Bool,(a||false)=a)∧(∀ a:Bool,(true||a)=true)∧(∀ a:Bool,(false||a)=a) ∧
    (∀ a:Bool,(a&&true)=a)∧(∀ a:Bool,(a&&false)=false)∧(∀ a:Bool,(true&&a)=a)∧(∀ a:Bool,(false&&a)=false)∧((!true)=false)∧((!false)=true)∧(∀ a:Bool,(!(!a))=a) ∧
    (∀ n:Nat,(n:Int).toNat=n)∧(∀ {O:Alg} (x:Ags O) (j:Nat),xr x [] j=[]) ∧
    (∀ {O:Alg} (x:Ags O) (ks:List Nat) (j:Nat),xr x (0::ks) j=.int (x.I j)::xr x ks (j+1))∧(∀ {O:Alg} (x:Ags O) (ks:List Nat) (j:Nat),xr x (1::ks) j=.bool (x.B j)::xr x ks (j+1)) ∧
    (∀ {O:Alg} (x:Ags O) (ks:List Nat) (j:Nat),xr x (2::ks) j=.str (x.S j)::xr x ks (j+1))∧(∀ {O:Alg} (x:Ags O) (ks:List Nat) (j:Nat),xr x (3::ks) j=.rows (x.L j)::xr x ks (j+1)) ∧
    (∀ (O:Alg) (c:O.C) (j:Nat),cr O c [] j=[])∧(∀ (O:Alg) (c:O.C) (ks:List Nat) (j:Nat),cr O c (0::ks) j=.int (O.i c j)::cr O c ks (j+1))∧(∀ (O:Alg) (c:O.C) (ks:List Nat) (j:Nat),cr O c (1::ks) j=.bool (O.l c j)::cr O c ks (j+1)) ∧
    (∀ (O:Alg) (c:O.C) (ks:List Nat) (j:Nat),cr O c (2::ks) j=.str (O.cS c j)::cr O c ks (j+1))∧(∀ (O:Alg) (c:O.C) (ks:List Nat) (j:Nat),cr O c (3::ks) j=.rows (O.r c j)::cr O c ks (j+1)) ∧
    (∀ (O:Alg) (l:O.L) (i:O.I) (j:Nat),rr O l i [] j=[])∧(∀ (O:Alg) (l:O.L) (i:O.I) (ks:List Nat) (j:Nat),rr O l i (0::ks) j=.int (O.s l i j)::rr O l i ks (j+1))∧(∀ (O:Alg) (l:O.L) (i:O.I) (ks:List Nat) (j:Nat),rr O l i (1::ks) j=.bool (O.rB l i j)::rr O l i ks (j+1)) ∧
    (∀ (O:Alg) (l:O.L) (i:O.I) (ks:List Nat) (j:Nat),rr O l i (2::ks) j=.str (O.rS l i j)::rr O l i ks (j+1))∧(∀ (O:Alg) (l:O.L) (i:O.I) (ks:List Nat) (j:Nat),rr O l i (3::ks) j=.rows (O.rL l i j)::rr O l i ks (j+1)) ∧
    (kI=[0,0,0,0,0,0,0,0,0,0,0,0,0,0,3,0,3,3,1,3,1,0,0,0,3,0,0,0])∧(kR=[2,0,0,0,0,0,0,0,1,0,0,0,0,3])∧(kM=[2,0,0,0,0,0,0,0,1,0,0,0,0,3,0,0,1,3,0,0,0,0,0]) ∧
    (∀ (O:Alg) (b:List O.Lf),ap O [] b=b)∧(∀ (O:Alg) (x:O.Lf) (a b:List O.Lf),ap O (x::a) b=x::ap O a b) ∧
    (∀ {α:Type} (x:α) (a b:List α),x::a++b=x::(a++b))∧(∀ {α:Type} (b:List α),[]++b=b):=by
  repeat' apply And.intro
  all_goals first | decide | (intros;rfl) | exact Zt | exact eH | exact ee | exact Int.toNat_natCast
theorem PXc : (∀ (b : Bool) (x y : List PV) (j : Nat), pvB (AE (cond b x y) j) = cond b (pvB (AE x j)) (pvB (AE y j))) ∧ (∀ (b : Bool) (x y : List PV) (j : Nat), pvI (AE (cond b x y) j) = cond b (pvI (AE x j)) (pvI (AE y j))) ∧
    (∀ (b:Bool) (x y:List PV) (j:Nat),pvS (AE (cond b x y) j)=cond b (pvS (AE x j)) (pvS (AE y j)))∧(∀ (b:Bool) (x y:List PV) (j:Nat),pvL (AE (cond b x y) j)=cond b (pvL (AE x j)) (pvL (AE y j))):=⟨eF,eN,eE,eS⟩
theorem PXn:(∀ a b:Bool,(!(a||b))=(!a && !b))∧(∀ a b:Bool,(!(a&&b))=(!a || !b))∧(∀ b p:Bool,cond b false p=(!b&&p))∧(∀ b p:Bool,cond b p true=(!b||p)):=⟨by decide,by decide,da,eI⟩
structure Inn where
 side:Int
 target:Int
 overs:Int
 runs:Int
 wickets:Int
 wides:Int
 noballs:Int
 byes:Int
 legbyes:Int
 pens:Int
 complete:Int
 inover:Int
 striker:Int
 other:Int
 batters:Rows
 bowler:Int
 bowlers:Rows
 before:Rows
 fresh:Bool
 bowled:Rows
 freehit:Bool
 ballage:Int
 keeper:Int
 outside:Int
 subs:Rows
 rev1:Int
 rev2:Int
 ending:Int
structure Rul where
 name:ByteArray
 side:Int
 innings:Int
 overs:Int
 balls:Int
 quota:Int
 wide:Int
 noball:Int
 freehit:Bool
 newball:Int
 followon:Int
 reviews:Int
 outside:Int
 power:Rows
structure Del where
 type:Int
 source:Int
 runs:Int
 short:Int
 boundary:Int
 crossed:Bool
 how:Int
 victim:Int
 fielder:Int
 second:Int
 sub:Bool
 sector:Int
structure Ev where
 kind:Int
 side:Int
 player:Int
 other:Int
 yes:Bool
 runs:Int
 overs:Int
 ball:Del
def Inn.ls (s:Inn):List PV:=[.int s.side,.int s.target,.int s.overs,.int s.runs,.int s.wickets,.int s.wides,.int s.noballs,.int s.byes,.int s.legbyes,.int s.pens,.int s.complete,.int s.inover,.int s.striker,.int s.other,.rows s.batters,.int s.bowler,.rows s.bowlers,.rows s.before,.bool s.fresh,.rows s.bowled,.bool s.freehit,.int s.ballage,.int s.keeper,.int s.outside,.rows s.subs,.int s.rev1,.int s.rev2,.int s.ending]
def Rul.ls (r:Rul):List PV:=[.str r.name,.int r.side,.int r.innings,.int r.overs,.int r.balls,.int r.quota,.int r.wide,.int r.noball,.bool r.freehit,.int r.newball,.int r.followon,.int r.reviews,.int r.outside,.rows r.power]
def Del.ls (d:Del):List PV:=[.int d.type,.int d.source,.int d.runs,.int d.short,.int d.boundary,.bool d.crossed,.int d.how,.int d.victim,.int d.fielder,.int d.second,.bool d.sub,.int d.sector]
def eW (x:Inn×Int):List PV:=[.int x.1.side,.int x.1.target,.int x.1.overs,.int x.1.runs,.int x.1.wickets,.int x.1.wides,.int x.1.noballs,.int x.1.byes,.int x.1.legbyes,.int x.1.pens,.int x.1.complete,.int x.1.inover,.int x.1.striker,.int x.1.other,.rows x.1.batters,.int x.1.bowler,.rows x.1.bowlers,.rows x.1.before,.bool x.1.fresh,.rows x.1.bowled,.bool x.1.freehit,.int x.1.ballage,.int x.1.keeper,.int x.1.outside,.rows x.1.subs,.int x.1.rev1,.int x.1.rev2,.int x.1.ending,.int x.2]
structure Fit (bt bw bf bd sb:Rows):Prop where
 bt:bt.length≤1048576
 bw:bw.length≤1048576
 bf:bf.length≤1048576
 bd:bd.length≤1048576
 sb:sb.length≤1048576
theorem Fit.bw' {bt bw bf bd sb:Rows} (h:Fit bt bw bf bd sb):bw.length≤1048576:=h.bw
theorem Mn {L:Rows} {b:Nat} (h:L.length≤1048576) (hb:b≤4096):iSm (L.length:Int) b=true:=TL (by omega) hb
abbrev Inn.Fit (s:Inn):Prop:=Px.Fit s.batters s.bowlers s.before s.bowled s.subs
theorem et (b:Bool) (x y z:Int):(cond b x y==z)=cond b (x==z) (y==z):=by cases b<;>rfl
theorem dJ (b:Bool) (x y:Int):cond b [PV.int x] [PV.int y]=[PV.int (cond b x y)]:=by cases b<;>rfl
theorem dM:((0:Nat):Int)=0:=rfl
theorem dE:((1:Nat):Int)=1:=rfl
theorem db:((2:Nat):Int)=2:=rfl
theorem dN:((3:Nat):Int)=3:=rfl
theorem cp (b x:Bool):cond b b x=(b||x):=by cases b<;>rfl
theorem Inn.eta (s:Inn):Inn.mk s.side s.target s.overs s.runs s.wickets s.wides s.noballs s.byes s.legbyes s.pens s.complete s.inover s.striker s.other s.batters s.bowler s.bowlers s.before s.fresh s.bowled s.freehit s.ballage s.keeper s.outside s.subs s.rev1 s.rev2 s.ending=s:=rfl
theorem Rul.eta (r:Rul):Rul.mk r.name r.side r.innings r.overs r.balls r.quota r.wide r.noball r.freehit r.newball r.followon r.reviews r.outside r.power=r:=rfl
def ix (p:Int):Nat:=(IntKind.i64.wrap (p - 1)).toNat
theorem Hd {L:Rows} {b:Nat} (h:L.length≤1048576) (hb:b≤4096):ID b [.rows L]=some [.rows L]:=by
 have h1:=TL (n:=L.length) (b:=b) (by omega) hb;have:QQ L.length b=true:=by
  simp only [iSm,decide_eq_true_eq] at h1;simp only [QQ,decide_eq_true_eq];have h2:=h1.2.2.1;rw [← Int.natCast_mul] at h2;omega
 simp only [ID,this]
def Z8 (L:Rows):Bool:=CH (fun i => !(atI L i 0==0)) L.length 0
theorem PXm : (∀ (b : Bool) (x y : List PV), cond b (some x) (some y) = some (cond b x y)) ∧ (∀ {α : Type} (b : Bool) (x : α), cond b x x = x) ∧ (∀ b x : Bool, cond b b x = (b || x)) ∧ (((0 : Nat) : Int) = 0) ∧ (((1 : Nat) : Int) = 1) ∧ (((2 : Nat) : Int) = 2) ∧ (((3 : Nat) : Int) = 3) ∧
    (∀ (b:Bool) (x y:Int),cond b [PV.int x] [PV.int y]=[PV.int (cond b x y)])∧(∀ (b x y:Bool),cond b [PV.bool x] [PV.bool y]=[PV.bool (cond b x y)])∧(∀ {α:Type} (l:List α) (i:Nat) (a:α),(l.set i a).length=l.length) ∧
    (∀ (b:Bool) (x y z:Int),(cond b x y==z)=cond b (x==z) (y==z))∧(∀ x:Int,(x==x)=true)∧(∀ x:Bool,(x==x)=true) ∧
    (∀ s:Inn,s.ls=[.int s.side,.int s.target,.int s.overs,.int s.runs,.int s.wickets,.int s.wides,.int s.noballs,.int s.byes,.int s.legbyes,.int s.pens,.int s.complete,.int s.inover,.int s.striker,.int s.other,.rows s.batters,.int s.bowler,.rows s.bowlers,.rows s.before,.bool s.fresh,.rows s.bowled,.bool s.freehit,.int s.ballage,.int s.keeper,.int s.outside,.rows s.subs,.int s.rev1,.int s.rev2,.int s.ending]) ∧
    (∀ x:Inn×Int,eW x=[.int x.1.side,.int x.1.target,.int x.1.overs,.int x.1.runs,.int x.1.wickets,.int x.1.wides,.int x.1.noballs,.int x.1.byes,.int x.1.legbyes,.int x.1.pens,.int x.1.complete,.int x.1.inover,.int x.1.striker,.int x.1.other,.rows x.1.batters,.int x.1.bowler,.rows x.1.bowlers,.rows x.1.before,.bool x.1.fresh,.rows x.1.bowled,.bool x.1.freehit,.int x.1.ballage,.int x.1.keeper,.int x.1.outside,.rows x.1.subs,.int x.1.rev1,.int x.1.rev2,.int x.1.ending,.int x.2]) ∧
    (∀ s:Inn,Inn.mk s.side s.target s.overs s.runs s.wickets s.wides s.noballs s.byes s.legbyes s.pens s.complete s.inover s.striker s.other s.batters s.bowler s.bowlers s.before s.fresh s.bowled s.freehit s.ballage s.keeper s.outside s.subs s.rev1 s.rev2 s.ending=s) ∧
    (∀ r:Rul,Rul.mk r.name r.side r.innings r.overs r.balls r.quota r.wide r.noball r.freehit r.newball r.followon r.reviews r.outside r.power=r) :=
  ⟨dc,dh,cp,dM,dE,db,dN,dJ,dp,fun _ _ _=>List.length_set,et,fun _=>beq_self_eq_true _,fun _=>beq_self_eq_true _,fun _=>rfl,fun _=>rfl,Inn.eta,Rul.eta⟩
end Go.Px
end
