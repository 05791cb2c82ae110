/- Part 9. -/
import Derived.Test.YtokmalmdcihogabGreatPart08
import Derived.Lib.Bytealg
import Derived.Lib.Strings
import Derived.Lib.Join
import Derived.Lib.ItoaNum
import Derived.Below
set_option linter.unusedVariables false
set_option linter.unusedSimpArgs false
section
namespace Go.Px
def Sy:List Nat→List PV→Bool
 | [],[]=>true
 | k::ks,p::ps=>(match p with | .int _=>Nat.beq k 0 | .bool _=>Nat.beq k 1 | .str _=>Nat.beq k 2 | .rows _=>Nat.beq k 3)&&Sy ks ps
 | _,_=>false
structure Ags (O:Alg) where
 I:Nat→O.I
 B:Nat→O.B
 S:Nat→O.S
 L:Nat→O.L
def xr {O:Alg} (x:Ags O):List Nat→Nat→List O.Lf
 | [],_=>[]
 | k::ks,j=>(match k with | 0=>.int (x.I j) | 1=>.bool (x.B j) | 2=>.str (x.S j) | _=>.rows (x.L j))::xr x ks (j+1)
def cr (O:Alg) (c:O.C):List Nat→Nat→List O.Lf
 | [],_=>[]
 | k::ks,j=>(match k with | 0=>.int (O.e c j) | 1=>.bool (O.l c j) | 2=>.str (O.cS c j) | _=>.rows (O.q c j))::cr O c ks (j+1)
def rr (O:Alg) (l:O.L) (i:O.I):List Nat→Nat→List O.Lf
 | [],_=>[]
 | k::ks,j=>(match k with | 0=>.int (O.k l i j) | 1=>.bool (O.rB l i j) | 2=>.str (O.rS l i j) | _=>.rows (O.rL l i j))::rr O l i ks (j+1)
def kI:List Nat:=[0,0,0,0,0,0,0,0,0,0,0,0,0,0,3,0,3,3,1,3,1,0,0,0,3,0,0,0]
def kR:List Nat:=[2,0,0,0,0,0,0,0,1,0,0,0,0,3]
def kM:List Nat:=[2,0,0,0,0,0,0,0,1,0,0,0,0,3,0,0,1,3,0,0,0,0,0]
def ap (O:Alg) (a b:List O.Lf):List O.Lf:=a++b
def xOf {E:Env} {N:Nat} (ls:List PV):Ags (std E N):={ I:=fun j=>pvI (AD ls j),B:=fun j=>pvB (AD ls j),S:=fun j=>pvS (AD ls j),L:=fun j=>pvL (AD ls j) }
theorem il {E:Env} {N:Nat}:∀ {ks:List Nat} {ps pre:List PV},Sy ks ps=true→ps.map PV.leaf=xr (xOf (E:=E) (N:=N) (pre++ps)) ks pre.length
 | [],[],pre,_=>rfl
 | k::ks,p::ps,pre,h=>by
  simp only [Sy,zzk] at h;have ih:=il (E:=E) (N:=N) (ks:=ks) (ps:=ps) (pre:=pre++[p]) h.2;simp only [List.map_cons,xr];have hc:AD (pre++p::ps) pre.length=p:=by
   unfold AD;rw [zzl,List.getElem?_append_right (Nat.le_refl _)];simp
  rw [List.append_assoc,List.length_append] at ih;have ih:ps.map PV.leaf=xr (xOf (E:=E) (N:=N) (pre++p::ps)) ks (pre.length+1):=ih;rw [ih];congr 1;have h1:=h.1;cases p with
  | int n=>have:=AA.1 h1;subst this;simp [xOf,hc,PV.leaf]
  | bool n=>have:=AA.1 h1;subst this;simp [xOf,hc,PV.leaf]
  | str n=>have:=AA.1 h1;subst this;simp [xOf,hc,PV.leaf]
  | rows n=>have:=AA.1 h1;subst this;simp [xOf,hc,PV.leaf]
 | [],_::_,_,h=>by simp [Sy] at h
 | _::_,[],_,h=>by simp [Sy] at h
theorem kz {E:Env} {N:Nat} {ks:List Nat} {ls:List PV} (h:Sy ks ls=true):ls.map PV.leaf=xr (xOf (E:=E) (N:=N) ls) ks 0:=il (pre:=[]) h
def Ni (ks:List Nat) (ls:List PV) (F:Option (List PV)):Option (List PV):=match Sy ks ls with
 | true=>F
 | false=>none
theorem hP {ks:List Nat} {ls rs:List PV} {F:Option (List PV)} (h:Ni ks ls F=some rs):Sy ks ls=true∧F=some rs:=by
 unfold Ni at h
 split at h
 ·rename_i hs;exact ⟨hs,h⟩
 ·cases h
abbrev VV (P:Program) (E:Env) (N:Nat) (ci:CI):Prop:=IE P E N ci∧IE P E N { ci with own:=false }
theorem Jn {P:Program} {E:Env} {N:Nat}:∀ ci∈([]:List CI),VV P E N ci:=fun ci h=>by simp at h
theorem Bs {P:Program} {E:Env} {N:Nat} {c:CI} {l:List CI} (h:VV P E N c) (k:∀ ci∈l,VV P E N ci):∀ ci∈c::l,VV P E N ci:=fun ci hm=>by
 rcases List.mem_cons.1 hm with rfl | hm
 ·exact h
 ·exact k ci hm
theorem nB {P : Program} (hmix : P.follows .mixedOrders = true) {E : Env} {N : Nat} {cfg : Cfg} (hΓ : ∀ ci ∈ cfg.gam, VV P E N ci) (hb : ∀ b ∈ cfg.bld, Sw P b) {ci : CI} {ks : List Nat} {c F : List PV → Option (List PV)} (hc : ∀ ls, c ls = Ni ks ls (F ls))
    (hx:∀ ls,XF (O:=std E N) P cfg ci.ow ci.nw ci.gives ci.f ci.fns (xr (xOf ls) ks 0)=F ls) {E':Env} {N':Nat} (h:∀ ls,E' ci.f ci.fns ls=c ls):VV P E' N' ci :=
  rJ hmix ⟨hΓ,hb⟩ (fun ls rs he=>by
    rw [h,hc] at he;obtain ⟨h1,h2⟩:=hP he;rw [kz h1,hx];exact h2)
theorem ET {P : Program} (hmix : P.follows .mixedOrders = true) {E : Env} {N : Nat} {cfg : Cfg} (hΓ : ∀ ci ∈ cfg.gam, VV P E N ci) {ci : CI} {ks : List Nat} {c F : List PV → Option (List PV)} (hc : ∀ ls, c ls = Ni ks ls (F ls))
    (hx:∀ ls,XF (O:=std E N) P cfg ci.ow ci.nw ci.gives ci.f ci.fns (xr (xOf ls) ks 0)=F ls) {E':Env} {N':Nat} (h:∀ ls,E' ci.f ci.fns ls=c ls) (hb:cfg.bld=[]:=by rfl):VV P E' N' ci :=
  nB hmix hΓ (by rw [hb];exact fun b h=>by simp at h) hc hx h
def Xz (n b:Nat):Bool:=decide (n≤17592186044416∧n * b≤17592186044416)
def Oy (b:Nat) (ls:List PV):Option (List PV):=match ls with
 | [.rows l]=>match Xz l.length b with
  | true=>some [.rows l]
  | false=>none
 | _=>none
def Rm (T:TypeId) (fn:Func):Code:=match fn.body with
 | some c=>match KB T c with
  | some (nb,_)=>nb
  | none=>.skip
 | none=>.skip
def Rw (T:TypeId) (fn:Func):Code:=match fn.body with
 | some c=>match KB T c with
  | some (_,t)=>t
  | none=>.skip
 | none=>.skip
def dG (fn:Func):Lv:={ nrm:=Nd fn.results.toList,ret:=Nd fn.results.toList,exts:=[] }
def lR (P:Program) (T:TypeId) (fn:Func):Bool:=match fn.body with
 | some c=>(KB T c).isSome&&Cf fn.ntmps (Rm T fn)&&Cf fn.ntmps (Rw T fn)&&(an P (Rm T fn)).nrm.isNone&&Nat.ble 5 fn.ntmps&&Al fn.params.toList [T]
 | none=>false
theorem OQ {P : Program} (hmix : P.follows .mixedOrders = true) {f : FuncId} {T e : TypeId} {b : Nat} {fn : Func} (hfn : P.funcs[f]? = some fn) (hT : P.underlying T = some (.slice e)) (hok : lR P T fn = true) (hb : b ≤ 1048576)
    (h1:∀ (O:Alg) (l:O.L),XL (O:=O) P { gam:=[] } 6 (Rm T fn) true (dG fn) (Gi e l) (eD P (fun _=>true) true fn)=O.a [.rows O.y])
    (h2:∀ (O:Alg) (l:O.L),XL (O:=O) P { gam:=[] } 6 (Rw T fn) true (dG fn) (Gi e l) (eD P (fun _=>true) true fn)=O.n (O.ac (O.o (O.ae (O.ad []) l)) b) (O.a [.rows (O.ae (O.ad []) l)]))
    {E':Env} {N':Nat} (h:∀ ls,E' f [] ls=Oy b ls):VV P E' N' ⟨f,[],true,true,[],[]⟩:=by
  unfold lR at hok
  split at hok
  case h_2=>cases hok
  rename_i c hbody;simp only [zzk] at hok;obtain ⟨⟨⟨⟨⟨k1,k2⟩,k3⟩,k4⟩,k5⟩,k6⟩:=hok;have k5:=Nat.le_of_ble_eq_true k5;have k6:=Hd.1 k6;obtain ⟨⟨nb,tail⟩,hpc⟩:=Option.isSome_iff_exists.1 k1;have hnb:Rm T fn=nb:=by simp [Rm,hbody,hpc]
  have htl:Rw T fn=tail:=by simp [Rw,hbody,hpc]
  rw [hnb] at k2 k4;rw [htl] at k3;have main : ∀ own', (own' = true → true = true) → ∀ (ls rs : List PV), E' f [] ls = some rs → ∀ fn', P.funcs[f]? = some fn' → ∀ (vs : List (AV (std E' N'))) (hs : List (Nat × HEnt (std E' N'))), A1 (O := std E' N') P [] 1 fn'.params.toList [] (ls.map PV.leaf) = some (vs, hs) →
      ∀ (n0:Nz) (σ:Nat→Option (Nat×Nat)) (w:World) (args:List Value),n0.n=w.heap.size→Mem P n0 noB σ (AP hs) w→RelArgs P n0 noB σ (AP hs) w vs args→Kept P noB σ (AP hs) w→Calls P f args.toArray w (Ret (E:=E') (N:=N') P ⟨f,[],own',true,[],[]⟩ n0 σ (AP hs) w fn' rs) :=
    fun own' ho ls rs he fn' hfn' vs hs hv n0 σ w args hn0 m hr hkp=>by
      rw [hfn] at hfn';cases hfn';rw [h] at he;unfold Oy at he
      split at he
      case h_2=>cases he
      rename_i l
      split at he
      case h_2=>cases he
      rename_i hsm;cases he;unfold Xz at hsm;have hsm:=of_decide_eq_true hsm;refine kq (cfg:={ gam:=[] }) hmix ⟨fun ci hm=>by simp at hm,fun b hm=>by simp at hm⟩ (fun _ _=>rfl) hfn k6 hT hbody hpc k2 k3 k4 k5 (lv:=dG fn) (fun hl=>?_) ?_ hv hn0 m hkp hr
      · rw [← hnb,h1,hl];rfl
      · rw [← htl,h2];have:(decide ((0:Int)≤((([]++l:Rows).length:Nat):Int)∧((([]++l:Rows).length:Nat):Int)≤17592186044416∧((([]++l:Rows).length:Nat):Int) * (b:Int)≤17592186044416∧b≤1048576))=true:=by
          simp only [List.nil_append,decide_eq_true_eq];refine ⟨by omega,by omega,?_,hb⟩;have:=hsm.2;rw [← Int.natCast_mul];omega
        show cond (decide ((0:Int)≤((([]++l:Rows).length:Nat):Int)∧((([]++l:Rows).length:Nat):Int)≤17592186044416∧((([]++l:Rows).length:Nat):Int) * (b:Int)≤17592186044416∧b≤1048576)) (some [PV.rows ([]++l)]) none=_;rw [this];rfl
  exact ⟨It (ci:=⟨f,[],true,true,[],[]⟩) (main true (fun _=>rfl)),It (ci:=⟨f,[],false,true,[],[]⟩) (main false (fun _=>rfl))⟩
open Go.RowKit
def aE (ls:List PV):Option (List PV):=match ls with
 | [.str s,.int c]=>some [.int (Lib.indexByte s.data.toList c.toNat.toUInt8)]
 | _=>none
theorem kX {P : Program} {f : FuncId} {T5 T9 T3 : TypeId} {fn : Func} (hfn : P.funcs[f]? = some fn) (hp : fn.params = #[T9, T5]) (hr : fn.resultTypes = #[T3]) (h9 : P.underlying T9 = some .string) (h5 : P.underlying T5 = some (.int .u8)) (h3 : P.underlying T3 = some (.int .i64)) (h3t : AM P T3 = some [T3])
    (hc:∀ (s:ByteArray) (c:Int) (w:World),Calls P f #[.string s,.int .u8 c] w fun e w'=>e=.returned (.int .i64 (Lib.indexByte s.data.toList c.toNat.toUInt8))∧w'=w)
    {E':Env} {N':Nat} (h:∀ ls,E' f [] ls=aE ls):VV P E' N' ⟨f,[],true,true,[],[]⟩:=by
  have l9:AH P T9=.str:=by simp [AH,h9]
  have l5:AH P T5=.int .u8:=by simp [AH,h5]
  have l3:AH P T3=.int .i64:=by simp [AH,h3]
  have a3:AR P T3=false:=by simp [AR,h3]
  have a5:AR P T5=false:=by simp [AR,h5]
  have a9:AR P T9=false:=by simp [AR,h9]
  have ty:∀ {T:TypeId} {x:List TypeId} {d:TypeDesc},P.underlying T=some d→(∀ k,BO P (k+1) T=some [T])→AM P T=some x→x=[T]:=fun {T x d} _ hk hx=>by
    unfold AM at hx;rw [show Cb=19+1 from rfl,hk] at hx;simp only at hx
    split at hx
    · cases hx;rfl
    · cases hx
  have main : ∀ own', ∀ (ls rs : List PV), E' f [] ls = some rs → ∀ fn', P.funcs[f]? = some fn' → ∀ (vs : List (AV (std E' N'))) (hs : List (Nat × HEnt (std E' N'))), A1 (O := std E' N') P [] 1 fn'.params.toList [] (ls.map PV.leaf) = some (vs, hs) →
      ∀ (n0:Nz) (σ:Nat→Option (Nat×Nat)) (w:World) (args:List Value),n0.n=w.heap.size→Mem P n0 noB σ (AP hs) w→RelArgs P n0 noB σ (AP hs) w vs args→Kept P noB σ (AP hs) w→Calls P f args.toArray w (Ret (E:=E') (N:=N') P ⟨f,[],own',true,[],[]⟩ n0 σ (AP hs) w fn' rs) :=
    fun own' ls rs he fn' hfn' vs hs hv n0 σ w args hn0 m hra hkp=>by
      rw [hfn] at hfn';cases hfn';rw [h] at he;unfold aE at he
      split at he
      case h_2=>cases he
      rename_i s c;cases he;rw [hp] at hv;have hT9:AM P T9=none∨AM P T9=some [T9]:=by
        cases hx:AM P T9 with
        | none=>exact .inl rfl
        | some x=>exact .inr (by rw [ty h9 (fun k=>by simp [BO,h9]) hx])
      have hT5:AM P T5=none∨AM P T5=some [T5]:=by
        cases hx:AM P T5 with
        | none=>exact .inl rfl
        | some x=>exact .inr (by rw [ty h5 (fun k=>by simp [BO,h5]) hx])
      unfold A1 at hv;simp only [l9] at hv
      rcases hT9 with hT9 | hT9
      · simp [hT9] at hv
      simp only [hT9,List.map_cons,List.map_nil,PV.leaf,Ae,l9,Option.map_some] at hv;unfold A1 at hv;simp only [l5] at hv
      rcases hT5 with hT5 | hT5
      · simp [hT5] at hv
      simp [hT5,Ae,l5,A1,a9,a5] at hv;obtain ⟨rfl,rfl⟩:=hv;obtain ⟨v1,v2,rfl⟩:∃ v1 v2,args=[v1,v2]:=by
        have:=hra.len
        match args,this with
        | [v1,v2],_=>exact ⟨v1,v2,rfl⟩
      obtain ⟨q1,q2,_⟩:=hra;have q1:RelVal P n0 noB σ (AP []) w (⟨false,[.str s]⟩:Val (std E' N')) v1:=q1;have q2:RelVal P n0 noB σ (AP []) w (⟨false,[.int .u8 c]⟩:Val (std E' N')) v2:=q2;obtain ⟨g1,g2⟩:=q1;have g2:v1.oneCell'=true:=g2;rw [BP g2] at g1;have e1:v1=.string s:=g1.1;obtain ⟨k1,k2⟩:=q2;have k2:v2.oneCell'=true:=k2;rw [BP k2] at k1;have e2:v2=.int .u8 c:=k1.1;subst e1;subst e2;refine Calls.mono (hc s c w) (fun e w' hp2=>?_);obtain ⟨rfl,rfl⟩:=hp2;refine ⟨rfl,rfl,rfl,Nat.le_refl _,fun _ _ _=>rfl,fun q=>⟨fun _=>none,[⟨false,[.int .i64 _]⟩],[],?_,⟨fun _ _ h=>(by cases h),fun _ _ h=>(by cases h),fun _ _ _ _ _ h=>(by cases h),fun _ _ _ _ _ _ _ h=>(by cases h),fun _ _ _ _ _ _ h=>(by cases h)⟩,⟨⟨rfl,trivial⟩,rfl⟩,fun b hb=>?_⟩⟩
      · rw [hr];simp [BQ,h3t,Aq,l3,a3];rfl
      · rcases hb with ⟨_,_,hx,_⟩ | ⟨_,_,_,hx,_⟩
        · cases hx
        · cases hx
  exact ⟨It (ci:=⟨f,[],true,true,[],[]⟩) (main true),It (ci:=⟨f,[],false,true,[],[]⟩) (main false)⟩
end Go.Px
end
section
namespace Go.Px
def cI (n:Nat):CI:=⟨n,[],true,true,[],[]⟩
def Vd (P:Program) (n:Nat) (c:Nat→List PV→Option (List PV)):Prop:=∀ {E:Env} {M:Nat} (N:Nat),(∀ ls,E n [] ls=c N ls)→VV P E M (cI n)
def eL (l:List (Nat×(Nat→List PV→Option (List PV)))) (N:Nat):Env:=fun f fns ls=>match l with
 | []=>none
 | p::r=>cond (Nat.beq f p.1&&Al fns []) (p.2 N ls) (eL r N f fns ls)
def oS (ks:List Nat) (t:∀ O:Alg,Ags O→O.M) (env:Nat→Env) (N:Nat) (ls:List PV):Option (List PV):=Ni ks ls (t (std (env N) N) (xOf ls))
inductive Gs (P:Program):List (Nat×(Nat→List PV→Option (List PV)))→Prop
 | nil:Gs P []
 | cons {n:Nat} {c:Nat→List PV→Option (List PV)} {l:List (Nat×(Nat→List PV→Option (List PV)))} (h:Vd P n c) (t:Gs P l):Gs P ((n,c)::l)
theorem g0 {P:Program}:Gs P []:=.nil
theorem gs {P:Program} {n:Nat} {c:Nat→List PV→Option (List PV)} {l:List (Nat×(Nat→List PV→Option (List PV)))} (h:Vd P n c) (t:Gs P l):Gs P ((n,c)::l):=.cons h t
def Kn:List Nat→Bool
 | []=>true
 | n::l=>l.all (fun m => !Nat.beq m n)&&Kn l
theorem oY {l:List (Nat×(Nat→List PV→Option (List PV)))} {N:Nat}:∀ {pre:List (Nat×(Nat→List PV→Option (List PV)))} {n:Nat} {c:Nat→List PV→Option (List PV)} {ls:List PV},pre.all (fun p => !Nat.beq n p.1)=true→eL (pre++(n,c)::l) N n [] ls=c N ls
 | [],n,c,ls,_=>by
  show cond (Nat.beq n n&&true) (c N ls) _=_;rw [Nat.beq_refl];rfl
 | p::pre,n,c,ls,h=>by
  rw [List.all_cons,zzk] at h;have h1:Nat.beq n p.1=false:=by
   have:=h.1;simpa using this
  show cond (Nat.beq n p.1&&true) _ (eL (pre++(n,c)::l) N n [] ls)=_;rw [h1];exact oY h.2
theorem pM {P:Program} {N:Nat}:∀ {l:List (Nat×(Nat→List PV→Option (List PV)))} {pre:List (Nat×(Nat→List PV→Option (List PV)))},Gs P l→(∀ p∈l,pre.all (fun q => !Nat.beq p.1 q.1)=true)→Kn (l.map (·.1))=true→∀ ci∈l.map (fun p=>cI p.1),VV P (eL (pre++l) N) N ci
 | [],_,_,_,_,ci,h=>by cases h
 | (n,c)::l,pre,.cons hv ht,hp,ha,ci,h=>by
  rw [List.map_cons,List.mem_cons] at h
  rcases h with h | h
  ·subst h;exact hv N (fun ls=>oY (hp (n,c) (zzm ..)))
  ·simp only [List.map_cons,Kn,zzk] at ha;have:=pM (N:=N) (pre:=pre++[(n,c)]) ht (fun p hm=>by
    rw [List.all_append,hp p (zzn _ hm),Bool.true_and];have h1:=List.all_eq_true.1 ha.1 p.1 (List.mem_map.2 ⟨p,hm,rfl⟩);simpa using h1) ha.2 ci h
   rw [List.append_assoc] at this;exact this
theorem vti {P : Program} (hmix : P.follows .mixedOrders = true) (imm old : Bool) (ie : List Nat) {n : Nat} {c : Nat → List PV → Option (List PV)} (ks : List Nat) (t : ∀ O : Alg, Ags O → O.M) (l : List (Nat × (Nat → List PV → Option (List PV)))) (hg : Gs P l) (ha : Kn (l.map (·.1)) = true)
    (hc:∀ N ls,c N ls=Ni ks ls (t (std (eL l N) N) (xOf ls)))
    (hx:∀ (O:Alg) (x:Ags O),XF (O:=O) P { gam:=l.map (fun p=>cI p.1),imm:=imm,old:=old,ie:=ie } (fun _=>true) true [] n [] (xr x ks 0)=t O x):Vd P n c:=fun N h =>
  ET hmix (E:=eL l N) (N:=N) (cfg:={ gam:=l.map (fun p=>cI p.1),imm:=imm,old:=old,ie:=ie }) (ci:=cI n) (pM (pre:=[]) hg (fun _ _=>rfl) ha) (hc N) (fun ls=>hx _ _) h
theorem vt {P : Program} (hmix : P.follows .mixedOrders = true) {n : Nat} {c : Nat → List PV → Option (List PV)} (ks : List Nat) (t : ∀ O : Alg, Ags O → O.M) (l : List (Nat × (Nat → List PV → Option (List PV)))) (hg : Gs P l) (ha : Kn (l.map (·.1)) = true)
    (hc:∀ N ls,c N ls=Ni ks ls (t (std (eL l N) N) (xOf ls)))
    (hx:∀ (O:Alg) (x:Ags O),XF (O:=O) P { gam:=l.map (fun p=>cI p.1) } (fun _=>true) true [] n [] (xr x ks 0)=t O x):Vd P n c:=vti hmix false false [] ks t l hg ha hc hx
theorem vE {P:Program} {n:Nat} {c:Nat→List PV→Option (List PV)} (v:Vd P n c) {E:Env} {M:Nat} (N:Nat) (h:∀ ls,E n [] ls=c N ls):VV P E M (cI n):=v N h
open Go.RowKit
theorem uh {P:Program} {T:TypeId} {x:List TypeId} (hk:∀ k,BO P (k+1) T=some [T]) (hx:AM P T=some x):x=[T]:=by
 unfold AM at hx;rw [show Cb=19+1 from rfl,hk] at hx;simp only at hx
 split at hx
 ·cases hx;rfl
 ·cases hx
theorem mB {P:Program} {T:TypeId} (hk:∀ k,BO P (k+1) T=some [T]):AM P T=none∨AM P T=some [T]:=by
 cases hx:AM P T with
 | none=>exact .inl rfl
 | some x=>exact .inr (by rw [uh hk hx])
end Go.Px
end
section
namespace Go.Px
open Go.RowKit
def bU (ls:List PV):Option (List PV):=match ls with
 | [.int hi,.int lo,.bool neg]=>cond (hi==0&&(decide (0≤lo)&&decide (lo<9223372036854775808))) (some (cond (neg && !(lo==0)) [.int (-1),.int (18446744073709551616 - lo),.bool true] [.int 0,.int lo,.bool true])) none
 | _=>none
theorem nH {P : Program} {f : FuncId} {T1 T2 T4 W A B R4 : TypeId} {fn : Func} (hfn : P.funcs[f]? = some fn) (hp : fn.params = #[T1, T2, T4]) (hr : fn.resultTypes = #[W, R4]) (h1 : P.underlying T1 = some (.int .u64)) (h2 : P.underlying T2 = some (.int .u64)) (h4 : P.underlying T4 = some .bool)
    (gw:AR P W=true) (gwt:AM P W=some [A,B]) (gA:AH P A=.int .i64) (gB:AH P B=.int .u64) (g4:P.underlying R4=some .bool) (g4t:AM P R4=some [R4])
    (hc:∀ (lo:Int) (neg:Bool) (w:World),0≤lo→lo<9223372036854775808→Calls P f #[.int .u64 0,.int .u64 lo,.bool neg] w fun e w'=>e=.returned (.tuple #[.agg #[.int .i64 (cond (neg && !(lo==0)) (-1) 0),.int .u64 (cond (neg && !(lo==0)) (18446744073709551616 - lo) lo)],.bool true])∧Below w.heap.size w w')
    {E':Env} {N':Nat} (h:∀ ls,E' f [] ls=bU ls):VV P E' N' ⟨f,[],true,true,[],[]⟩:=by
  have l1:AH P T1=.int .u64:=by simp [AH,h1]
  have l2:AH P T2=.int .u64:=by simp [AH,h2]
  have l4:AH P T4=.bool:=by simp [AH,h4]
  have m4:AH P R4=.bool:=by simp [AH,g4]
  have a1:AR P T1=false:=by simp [AR,h1]
  have a2:AR P T2=false:=by simp [AR,h2]
  have a4:AR P T4=false:=by simp [AR,h4]
  have b4:AR P R4=false:=by simp [AR,g4]
  have main : ∀ own', ∀ (ls rs : List PV), E' f [] ls = some rs → ∀ fn', P.funcs[f]? = some fn' → ∀ (vs : List (AV (std E' N'))) (hs : List (Nat × HEnt (std E' N'))), A1 (O := std E' N') P [] 1 fn'.params.toList [] (ls.map PV.leaf) = some (vs, hs) →
      ∀ (n0:Nz) (σ:Nat→Option (Nat×Nat)) (w:World) (args:List Value),n0.n=w.heap.size→Mem P n0 noB σ (AP hs) w→RelArgs P n0 noB σ (AP hs) w vs args→Kept P noB σ (AP hs) w→Calls P f args.toArray w (Ret (E:=E') (N:=N') P ⟨f,[],own',true,[],[]⟩ n0 σ (AP hs) w fn' rs) :=
    fun own' ls rs he fn' hfn' vs hs hv n0 σ w args hn0 m hra hkp=>by
      rw [hfn] at hfn';cases hfn';rw [h] at he;unfold bU at he
      split at he
      case h_2=>cases he
      rename_i hi lo neg;cases hsz:(hi==0&&(decide (0≤lo)&&decide (lo<9223372036854775808))) with
      | false=>rw [hsz] at he;cases he
      | true =>
      rw [hsz] at he;simp only [zzk,beq_iff_eq,decide_eq_true_eq] at hsz;obtain ⟨h0,hl0,hl1⟩:=hsz;subst h0;have he:rs=[.int (cond (neg && !(lo==0)) (-1) 0),.int (cond (neg && !(lo==0)) (18446744073709551616 - lo) lo),.bool true]:=by
        cases he;cases neg && !(lo==0)<;>rfl
      subst he;rw [hp] at hv;unfold A1 at hv;simp only [l1] at hv
      rcases mB (P:=P) (T:=T1) (fun k=>by simp [BO,h1]) with hT | hT
      · simp [hT] at hv
      simp only [hT,List.map_cons,List.map_nil,PV.leaf,Ae,l1,Option.map_some] at hv;unfold A1 at hv;simp only [l2] at hv
      rcases mB (P:=P) (T:=T2) (fun k=>by simp [BO,h2]) with hT2 | hT2
      · simp [hT2] at hv
      simp only [hT2,Ae,l2,Option.map_some] at hv;unfold A1 at hv;simp only [l4] at hv
      rcases mB (P:=P) (T:=T4) (fun k=>by simp [BO,h4]) with hT3 | hT3
      · simp [hT3] at hv
      simp [hT3,Ae,l4,A1,a1,a2,a4] at hv;obtain ⟨rfl,rfl⟩:=hv;obtain ⟨v1,v2,v3,rfl⟩:∃ v1 v2 v3,args=[v1,v2,v3]:=by
        have:=hra.len
        match args,this with
        | [v1,v2,v3],_=>exact ⟨v1,v2,v3,rfl⟩
      obtain ⟨q1,q2,q3,_⟩:=hra;have one:∀ {c:AC0 E' N'} {v:Value},RelVal P n0 noB σ (AP []) w (⟨false,[c]⟩:Val (std E' N')) v→RelC P n0 noB σ (AP []) w c v:=fun {c v} q=>by
        obtain ⟨g1,g2⟩:=q;have g2:v.oneCell'=true:=g2;rw [BP g2] at g1;exact g1.1
      have e1:v1=.int .u64 (0:Int):=one (c:=.int .u64 (0:Int)) q1;have e2:v2=.int .u64 lo:=one (c:=.int .u64 lo) q2;have e3:v3=.bool neg:=one (c:=.bool neg) q3;subst e1;subst e2;subst e3;refine Calls.mono (hc lo neg w hl0 hl1) (fun e w' hp2=>?_);obtain ⟨rfl,hb⟩:=hp2;refine ⟨hb.os,hb.tape,hb.output,hb.size,fun b hb2 _=>hb.block b hb2,fun q=>⟨fun _=>none,[⟨true,[.int .i64 _,.int .u64 _]⟩,⟨false,[.bool true]⟩],[],?_,⟨fun _ _ h=>(by cases h),fun _ _ h=>(by cases h),fun _ _ _ _ _ h=>(by cases h),fun _ _ _ _ _ _ _ h=>(by cases h),fun _ _ _ _ _ _ h=>(by cases h)⟩,⟨_,rfl,⟨⟨rfl,rfl,trivial⟩,⟨_,rfl⟩⟩,⟨⟨rfl,trivial⟩,rfl⟩,trivial⟩,fun b hb=>?_⟩⟩
      · rw [hr];simp [BQ,gwt,g4t,Aq,gA,gB,m4,gw,b4];exact ⟨⟨rfl,rfl⟩,rfl⟩
      · rcases hb with ⟨_,_,hx,_⟩ | ⟨_,_,_,hx,_⟩
        · cases hx
        · cases hx
  exact ⟨It (ci:=⟨f,[],true,true,[],[]⟩) (main true),It (ci:=⟨f,[],false,true,[],[]⟩) (main false)⟩
end Go.Px
end
section
namespace Go.Px
def rB (xs:List Bool):Rows:=xs.map fun n=>[PV.bool n]
theorem Bg {n:Int} (h1 : -9223372036854775808≤n) (h2:n≤9223372036854775807):IntKind.i64.wrap n=n:=by
 unfold IntKind.wrap;simp [IntKind.signed,IntKind.bits];omega
theorem AG (b:Bool) (x y:List PV) (k:List PV→Option (List PV)):(cond b (some x) (some y):Option (List PV)).bind k=k (cond b x y):=by cases b<;>rfl
theorem vC (b:Bool) (x y:List PV) (j:Nat):pvB (AD (cond b x y) j)=cond b (pvB (AD x j)) (pvB (AD y j)):=by cases b<;>rfl
theorem uy (b:Bool) (x y:List PV) (j:Nat):pvI (AD (cond b x y) j)=cond b (pvI (AD x j)) (pvI (AD y j)):=by cases b<;>rfl
theorem uz (b:Bool) (x y:List PV) (j:Nat):pvS (AD (cond b x y) j)=cond b (pvS (AD x j)) (pvS (AD y j)):=by cases b<;>rfl
theorem ur (b:Bool) (x y:List PV) (j:Nat):pvL (AD (cond b x y) j)=cond b (pvL (AD x j)) (pvL (AD y j)):=by cases b<;>rfl
theorem cZ (b p:Bool):cond b p false=(b&&p):=by cases b<;>rfl
theorem vN (b p:Bool):cond b true p=(b||p):=by cases b<;>rfl
theorem uG (b p:Bool):cond b false p=(!b&&p):=by cases b<;>rfl
theorem vD (b p:Bool):cond b p true=(!b||p):=by cases b<;>rfl
theorem ua (b:Bool) (x y:List PV):cond b (some x) (some y)=some (cond b x y):=by cases b<;>rfl
theorem tV {α:Type} (b:Bool) (x:α):cond b x x=x:=by cases b<;>rfl
theorem ug (b p q:Bool):cond b [PV.bool p] [PV.bool q]=[PV.bool (cond b p q)]:=by cases b<;>rfl
theorem R2 (p:PV) (r:List PV):AD (p::r) 0=p:=rfl
theorem pX (p:PV) (r:List PV) (j:Nat):AD (p::r) (j+1)=AD r j:=by simp [AD]
def aB {St:Type} (body:Nat→St→List PV ⊕ St) (fin:St→List PV):Nat→Nat→St→List PV
 | 0,_,s=>fin s
 | k+1,i,s=>match body i s with
  | .inl r=>r
  | .inr s'=>aB body fin k (i+1) s'
theorem fK {St : Type} {F : (List AU → Option (List PV)) → List PV → Option (List PV)} {len : Nat} {enc : Nat → St → List AU} {body : Nat → St → List PV ⊕ St} {fin : St → List PV} (I : Nat → St → Prop)
    (h0:∀ s self,I len s→F self ((enc len s).map Leaf.pv)=some (fin s))
    (h1:∀ i s self,i<len→I i s→F self ((enc i s).map Leaf.pv)=(match body i s with | .inl r=>some r | .inr s'=>self (enc (i+1) s'))∧∀ s',body i s=.inr s'→I (i+1) s') :
    ∀ (k i:Nat) (s:St) (n:Nat),i+k=len→k<n→I i s→DD F n ((enc i s).map Leaf.pv)=some (aB body fin k i s)
  | 0,i,s,n,hk,hn,hi=>by
    obtain ⟨n,rfl⟩:∃ m,n=m+1:=⟨n - 1,by omega⟩;obtain rfl:i=len:=by omega
    exact h0 s _ hi
  | k+1,i,s,n,hk,hn,hi=>by
    obtain ⟨n,rfl⟩:∃ m,n=m+1:=⟨n - 1,by omega⟩;obtain ⟨h2,h3⟩:=h1 i s (fun ls=>DD F n (ls.map Leaf.pv)) (by omega) hi;show F _ _=_;rw [h2];simp only [aB];cases hb:body i s with
    | inl r=>rfl
    | inr s'=>exact fK I h0 h1 k (i+1) s' n (by omega) (by omega) (h3 s' hb)
theorem Ad {F:(List AU→Option (List PV))→List PV→Option (List PV)} {n:Nat} {c r:List PV} {k:List PV→Option (List PV)} {g:Option (List PV)} (h:DD F n c=some r) (hk:k r=g):(DD F n c).bind k=g:=by
 rw [h];exact hk
def CC (ans:Nat→Option (List PV)):Nat→Nat→Option (List PV)
 | 0,_=>none
 | k+1,i=>match ans i with
  | some r=>some r
  | none=>CC ans k (i+1)
def X5:Option (List PV)→List PV
 | some r=>.int 0::r
 | none=>[.int 1]
theorem C6 {F : (List AU → Option (List PV)) → List PV → Option (List PV)} {len : Nat} (ans : Nat → Option (List PV))
    (h0:∀ self,F self [.int (len:Int)]=some [.int 1]) (h1:∀ i self,i<len→F self [.int (i:Int)]=match ans i with | some r=>some (.int 0::r) | none=>self [.int ((i:Int)+1)]) :
    ∀ (k i n:Nat),i+k=len→k<n→DD F n [.int (i:Int)]=some (X5 (CC ans k i))
  | 0,i,n,hk,hn=>by
    obtain ⟨n,rfl⟩:∃ m,n=m+1:=⟨n - 1,by omega⟩;obtain rfl:i=len:=by omega
    exact h0 _
  | k+1,i,n,hk,hn=>by
    obtain ⟨n,rfl⟩:∃ m,n=m+1:=⟨n - 1,by omega⟩;have h2:=h1 i (fun ls=>DD F n (ls.map Leaf.pv)) (by omega);show F _ _=_;rw [h2];simp only [CC];cases ha:ans i with
    | some r=>rfl
    | none =>
      have:=C6 ans h0 h1 k (i+1) n (by omega) (by omega);show DD F n [.int ((i:Int)+1)]=_;rw [show ((i:Int)+1)=(((i+1:Nat)):Int) by omega];exact this
def Bd (bad:Nat→Bool) (k i:Nat):Bool:=(List.range' i k).any bad
theorem JI (bad:Nat→Bool) (i:Nat):Bd bad 0 i=false:=rfl
theorem B5 (bad:Nat→Bool) (k i:Nat):Bd bad (k+1) i=(bad i||Bd bad k (i+1)):=by simp only [Bd,List.range'_succ,List.any_cons]
theorem fi (bad:Nat→Bool) (r:List PV):∀ (k i:Nat),CC (fun j=>cond (bad j) (some r) none) k i=cond (Bd bad k i) (some r) none
 | 0,i=>rfl
 | k+1,i=>by
  rw [B5];simp only [CC];cases hb:bad i with
  | true=>rfl
  | false=>rw [Bool.false_or];exact fi bad r k (i+1)
theorem aA {f g:Nat→Bool}:∀ (k i:Nat),(∀ j,i≤j→j<i+k→f j=g j)→Bd f k i=Bd g k i
 | 0,i,_=>rfl
 | k+1,i,h=>by rw [B5,B5,h i (Nat.le_refl _) (by omega),aA k (i+1) (fun j h1 h2=>h j (by omega) (by omega))]
theorem HC {f:Nat→Bool} {k i:Nat}:Bd f k i=false↔∀ j,i≤j→j<i+k→f j=false:=by
 induction k generalizing i with
 | zero=>simp [JI];intro j h1 h2;omega
 | succ k ih =>
  rw [B5,Bool.or_eq_false_iff,ih];constructor
  ·intro ⟨h1,h2⟩ j h3 h4
   rcases Nat.lt_or_ge i j with h | h
   ·exact h2 j h (by omega)
   ·obtain rfl:j=i:=by omega
    exact h1
  ·intro h;exact ⟨h i (Nat.le_refl _) (by omega),fun j h1 h2=>h j (by omega) (by omega)⟩
theorem LD {F : (List AU → Option (List PV)) → List PV → Option (List PV)} {len : Nat} (bad : Nat → Bool) (r : List PV)
    (h0:∀ self,F self [.int (len:Int)]=some [.int 1]) (h1:∀ i self,i<len→F self [.int (i:Int)]=cond (bad i) (some (.int 0::r)) (self [.int ((i:Int)+1)])) (n:Nat) (hn:len<n) :
    DD F n [.int 0]=some (cond (Bd bad len 0) (.int 0::r) [.int 1]):=by
  have:=C6 (F:=F) (len:=len) (fun j=>cond (bad j) (some r) none) h0 (fun i self hi=>by rw [h1 i self hi];cases bad i<;>rfl) len 0 n (by omega) hn;rw [show (0:Int)=((0:Nat):Int) from rfl,this,fi];cases Bd bad len 0<;>rfl
theorem BC {i:Nat} (h:i≤1099511627776):IntKind.i64.wrap ((i:Int)+1)=(i:Int)+1:=Bg (by omega) (by omega)
theorem Ax {i len:Nat} (h:i<len):iIn (i:Int) (len:Int)=true:=by simp [iIn];omega
theorem BR {i len:Nat} (h:i<len):iLt (i:Int) (len:Int)=true:=by simp [iLt];omega
theorem Bh (len:Nat):iLt (len:Int) (len:Int)=false:=by simp [iLt]
theorem ZR {F : (List AU → Option (List PV)) → List PV → Option (List PV)} {len : Nat} (enc : Nat → List AU) (bad : Nat → Bool) (r fin : List PV)
    (h0:∀ self,F self ((enc len).map Leaf.pv)=some fin) (h1:∀ i self,i<len→F self ((enc i).map Leaf.pv)=cond (bad i) (some r) (self (enc (i+1)))) (n:Nat) (hn:len<n) :
    DD F n ((enc 0).map Leaf.pv)=some (cond (Bd bad len 0) r fin):=by
  have main:∀ (k i n:Nat),i+k=len→k<n→DD F n ((enc i).map Leaf.pv)=some (cond (Bd bad k i) r fin):=by
    intro k
    induction k with
    | zero =>
      intro i n hk hn;obtain ⟨n,rfl⟩:∃ m,n=m+1:=⟨n - 1,by omega⟩;obtain rfl:i=len:=by omega
      exact h0 _
    | succ k ih =>
      intro i n hk hn;obtain ⟨n,rfl⟩:∃ m,n=m+1:=⟨n - 1,by omega⟩;show F _ _=_;rw [h1 i _ (by omega),B5];cases bad i with
      | true=>rfl
      | false=>exact ih (i+1) n (by omega) (by omega)
  exact main len 0 n (by omega) hn
theorem sJ (k i:Nat):Bd (fun _=>false) k i=false:=HC.2 fun _ _ _=>rfl
theorem DQ {F : (List AU → Option (List PV)) → List PV → Option (List PV)} {len : Nat} (enc : Nat → List AU) (fin : List PV)
    (h0:∀ self,F self ((enc len).map Leaf.pv)=some fin) (h1:∀ i self,i<len→F self ((enc i).map Leaf.pv)=self (enc (i+1))) (n:Nat) (hn:len<n) :
    DD F n ((enc 0).map Leaf.pv)=some fin:=by
  have:=ZR (F:=F) enc (fun _=>false) [] fin h0 h1 n hn;rw [sJ] at this;exact this
def F4 (p:Nat→Bool):Nat→Option (List PV):=fun j=>cond (p j) (some [.int (j:Int)]) none
def O8 (p:Nat→Bool) (k:Nat):Int:=match CC (F4 p) k 0 with
 | some r=>pvI (AD r 0)
 | none => -1
theorem Yx (p:Nat→Bool):∀ k i,iLe 0 (match CC (F4 p) k i with | some r=>pvI (AD r 0) | none => -1)=Bd p k i
 | 0,i=>rfl
 | k+1,i=>by
  rw [B5];simp only [CC,F4];cases h:p i with
  | true=>simp only [cond_true,R2,Bool.true_or,pvI,iLe];simp
  | false=>rw [Bool.false_or];exact Yx p k (i+1)
theorem Jr (p:Nat→Bool) (k:Nat):iLe 0 (O8 p k)=Bd p k 0:=Yx p k 0
theorem ux {i len:Nat} (h:i≤len):iRg 0 (i:Int) (len:Int)=true:=by simp [iRg];omega
theorem ID {n b:Nat} (h:n≤4194304) (hb:b≤4096):iSm (n:Int) b=true:=by
 have:n * b≤4194304 * 4096:=Nat.mul_le_mul h hb;simp only [iSm,decide_eq_true_eq];refine ⟨by omega,by omega,?_,by omega⟩;rw [← Int.natCast_mul];omega
def atI (L:Rows) (i j:Nat):Int:=pvI (AF L i j)
theorem Dw (L:Rows) (i j:Nat):pvI (AF L i j)=atI L i j:=rfl
theorem qO {L:Rows} {i j k:Nat} (h:j<i):atI (L.take i) j k=atI L j k:=by
 unfold atI AF AK;simp only [zzl];rw [List.getElem?_take_of_lt h]
def Ch (p:Nat→Bool):Nat→Int
 | 0=>0
 | i+1=>cond (p i) (Ch p i+1) (Ch p i)
theorem jR (p:Nat→Bool):∀ i,0≤Ch p i∧Ch p i≤(i:Int)
 | 0=>by simp [Ch]
 | i+1=>by
  have:=jR p i;unfold Ch;cases p i<;>simp only [cond_true,cond_false]<;>omega
theorem kJ (p:Nat→Bool) {i:Nat} (h:i≤1099511627776):IntKind.i64.wrap (Ch p i+1)=Ch p i+1:=by
 have:=jR p i;exact Bg (by omega) (by omega)
theorem fW {p q:Nat→Bool}:∀ i,(∀ j,j<i→p j=q j)→Ch p i=Ch q i
 | 0,_=>rfl
 | i+1,h=>by
  unfold Ch;rw [h i (by omega),fW i (fun j hj=>h j (by omega))]
theorem j9 {p q:Nat→Bool}:∀ i,(∀ j,j<i→p j=true→q j=true)→Ch p i≤Ch q i
 | 0,_=>by simp [Ch]
 | i+1,h=>by
  have h1:=j9 i (fun j hj=>h j (by omega));have h2:=h i (by omega);unfold Ch;cases hp:p i with
  | true=>rw [h2 hp];simp only [cond_true];omega
  | false=>cases q i<;>simp only [cond_true,cond_false]<;>omega
theorem oT {p q:Nat→Bool}:∀ i,(∀ j,j<i→p j=true→q j=true)→Ch p i=Ch q i→∀ j,j<i→p j=q j
 | 0,_,_=>fun j hj=>by omega
 | i+1,h,he=>by
  have h1:=j9 i (fun j hj=>h j (by omega));have h2:=h i (by omega);unfold Ch at he;intro j hj;have hpq:p i=q i∧Ch p i=Ch q i:=by
   cases hp:p i with
   | true =>
    have hq:=h2 hp;rw [hp,hq] at he;simp only [cond_true] at he;exact ⟨hq.symm,by omega⟩
   | false =>
    cases hq:q i with
    | true=>rw [hp,hq] at he;simp only [cond_true,cond_false] at he;omega
    | false=>rw [hp,hq] at he;simp only [cond_false] at he;exact ⟨rfl,he⟩
  rcases Nat.lt_or_ge j i with hji | hji
  ·exact oT i (fun j hj=>h j (by omega)) hpq.2 j hji
  ·obtain rfl:j=i:=by omega
   exact hpq.1
theorem pG {p q:Nat→Bool}:∀ i,(∀ j,j<i→p j=true→q j=false)→Ch (fun j=>p j||q j) i=Ch p i+Ch q i
 | 0,_=>rfl
 | i+1,h=>by
  have h1:=pG i (fun j hj=>h j (by omega));have h2:=h i (by omega);unfold Ch;rw [h1];cases hp:p i with
  | true=>rw [h2 hp];simp only [Bool.true_or,cond_true,cond_false];omega
  | false=>cases q i<;>simp only [Bool.false_or,cond_true,cond_false]<;>omega
theorem i7 (s:Int):∀ (i:Nat),0≤s→Ch (fun j=>s==(j:Int)+1) i=cond (!(s==0)&&iLe s (i:Int)) 1 0
 | 0,hs=>by
  have:(!(s==0)&&iLe s ((0:Nat):Int))=false:=by
   rw [Bool.and_eq_false_iff]
   by_cases h:s=0
   ·subst h;exact .inl rfl
   ·exact .inr (by simp only [iLe,decide_eq_false_iff_not];omega)
  rw [this];rfl
 | i+1,hs=>by
  unfold Ch;rw [i7 s i hs]
  by_cases h:s=(i:Int)+1
  ·have e1:(s==(i:Int)+1)=true:=by simp [h]
   have e2:iLe s (i:Int)=false:=by simp only [iLe,decide_eq_false_iff_not];omega
   have e3:iLe s ((i+1:Nat):Int)=true:=by simp only [iLe,decide_eq_true_eq];omega
   have e4:(s==0)=false:=by simp only [beq_eq_false_iff_ne];omega
   rw [e1,e2,e3,e4];rfl
  ·have e1:(s==(i:Int)+1)=false:=by simp [h]
   have e2:iLe s (i:Int)=iLe s ((i+1:Nat):Int):=by
    unfold iLe;rw [Bool.eq_iff_iff,decide_eq_true_eq,decide_eq_true_eq];omega
   rw [e1,e2];rfl
theorem XJ (f:Nat→Bool):∀ (k i:Nat),Bd f (k+1) i=(Bd f k i||f (i+k))
 | 0,i=>by rw [B5,JI,JI];simp
 | k+1,i=>by rw [B5,XJ f k (i+1),B5 f k i,Bool.or_assoc];congr 3;omega
theorem bT (f:Nat→Bool):∀ (k i:Nat),Bd f k (i+1)=Bd (fun j=>f (j+1)) k i
 | 0,i=>rfl
 | k+1,i=>by rw [B5,B5,bT f k (i+1)]
def Jw (p:Int→Bool) (L:Rows):Bool:=Bd (fun i=>p (atI L i 0)) L.length 0
theorem N1 (p:Int→Bool):∀ (L:Rows),Jw p L=L.any fun r=>p (pvI (AD r 0))
 | []=>rfl
 | r::L=>by
  have ih:=N1 p L;unfold Jw at ih ⊢;rw [List.length_cons,B5,bT,List.any_cons,← ih];rfl
theorem iP (p:Int→Bool) (a b:Rows):Jw p (a++b)=(Jw p a||Jw p b):=by
 rw [N1,N1,N1,List.any_append]
theorem PXb : (∀ {α β : Type} (f : α → β) (a : α) (l : List α), List.map f (a :: l) = f a :: List.map f l) ∧ (∀ {α β : Type} (f : α → β), List.map f [] = []) ∧
    (∀ i:Int,Leaf.pv (.int i:AU)=.int i)∧(∀ i:Bool,Leaf.pv (.bool i:AU)=.bool i)∧(∀ i:ByteArray,Leaf.pv (.str i:AU)=.str i)∧(∀ i:Rows,Leaf.pv (.rows i:AU)=.rows i) ∧
    (∀ {α β:Type} (a:α) (f:α→Option β),(some a).bind f=f a)∧(∀ (p:PV) (r:List PV),AD (p::r) 0=p)∧(∀ (p:PV) (r:List PV) (j:Nat),AD (p::r) (j+1)=AD r j) ∧
    (∀ n:Int,pvI (.int n)=n)∧(∀ n:Bool,pvB (.bool n)=n)∧(∀ n:ByteArray,pvS (.str n)=n)∧(∀ n:Rows,pvL (.rows n)=n) ∧
    (∀ b p:Bool,cond b p false=(b&&p))∧(∀ b p:Bool,cond b true p=(b||p))∧(∀ {α:Type} (a b:α),cond true a b=a)∧(∀ {α:Type} (a b:α),cond false a b=b) ∧
    (∀ a b:Bool,(a&&(a&&b))=(a&&b))∧(∀ a:Bool,(a&&a)=a)∧(∀ a b:Bool,(a||(a||b))=(a||b))∧(∀ a:Bool,(a||a)=a) ∧
    (∀ a:Bool,(a||true)=true)∧(∀ a:Bool,(a||false)=a)∧(∀ a:Bool,(true||a)=true)∧(∀ a:Bool,(false||a)=a) ∧
    (∀ a:Bool,(a&&true)=a)∧(∀ a:Bool,(a&&false)=false)∧(∀ a:Bool,(true&&a)=a)∧(∀ a:Bool,(false&&a)=false)∧((!true)=false)∧((!false)=true)∧(∀ a:Bool,(!(!a))=a) ∧
    (∀ n:Nat,(n:Int).toNat=n)∧(∀ {O:Alg} (x:Ags O) (j:Nat),xr x [] j=[]) ∧
    (∀ {O:Alg} (x:Ags O) (ks:List Nat) (j:Nat),xr x (0::ks) j=.int (x.I j)::xr x ks (j+1))∧(∀ {O:Alg} (x:Ags O) (ks:List Nat) (j:Nat),xr x (1::ks) j=.bool (x.B j)::xr x ks (j+1)) ∧
    (∀ {O:Alg} (x:Ags O) (ks:List Nat) (j:Nat),xr x (2::ks) j=.str (x.S j)::xr x ks (j+1))∧(∀ {O:Alg} (x:Ags O) (ks:List Nat) (j:Nat),xr x (3::ks) j=.rows (x.L j)::xr x ks (j+1)) ∧
    (∀ (O:Alg) (c:O.C) (j:Nat),cr O c [] j=[])∧(∀ (O:Alg) (c:O.C) (ks:List Nat) (j:Nat),cr O c (0::ks) j=.int (O.e c j)::cr O c ks (j+1))∧(∀ (O:Alg) (c:O.C) (ks:List Nat) (j:Nat),cr O c (1::ks) j=.bool (O.l c j)::cr O c ks (j+1)) ∧
    (∀ (O:Alg) (c:O.C) (ks:List Nat) (j:Nat),cr O c (2::ks) j=.str (O.cS c j)::cr O c ks (j+1))∧(∀ (O:Alg) (c:O.C) (ks:List Nat) (j:Nat),cr O c (3::ks) j=.rows (O.q c j)::cr O c ks (j+1)) ∧
    (∀ (O:Alg) (l:O.L) (i:O.I) (j:Nat),rr O l i [] j=[])∧(∀ (O:Alg) (l:O.L) (i:O.I) (ks:List Nat) (j:Nat),rr O l i (0::ks) j=.int (O.k l i j)::rr O l i ks (j+1))∧(∀ (O:Alg) (l:O.L) (i:O.I) (ks:List Nat) (j:Nat),rr O l i (1::ks) j=.bool (O.rB l i j)::rr O l i ks (j+1)) ∧
    (∀ (O:Alg) (l:O.L) (i:O.I) (ks:List Nat) (j:Nat),rr O l i (2::ks) j=.str (O.rS l i j)::rr O l i ks (j+1))∧(∀ (O:Alg) (l:O.L) (i:O.I) (ks:List Nat) (j:Nat),rr O l i (3::ks) j=.rows (O.rL l i j)::rr O l i ks (j+1)) ∧
    (kI=[0,0,0,0,0,0,0,0,0,0,0,0,0,0,3,0,3,3,1,3,1,0,0,0,3,0,0,0])∧(kR=[2,0,0,0,0,0,0,0,1,0,0,0,0,3])∧(kM=[2,0,0,0,0,0,0,0,1,0,0,0,0,3,0,0,1,3,0,0,0,0,0]) ∧
    (∀ (O:Alg) (b:List O.Lf),ap O [] b=b)∧(∀ (O:Alg) (x:O.Lf) (a b:List O.Lf),ap O (x::a) b=x::ap O a b) ∧
    (∀ {α:Type} (x:α) (a b:List α),x::a++b=x::(a++b))∧(∀ {α:Type} (b:List α),[]++b=b):=by
  repeat' apply And.intro
  all_goals first | decide | (intros;rfl) | exact pX | exact cZ | exact vN | exact Int.toNat_natCast
theorem PXc : (∀ (b : Bool) (x y : List PV) (j : Nat), pvB (AD (cond b x y) j) = cond b (pvB (AD x j)) (pvB (AD y j))) ∧ (∀ (b : Bool) (x y : List PV) (j : Nat), pvI (AD (cond b x y) j) = cond b (pvI (AD x j)) (pvI (AD y j))) ∧
    (∀ (b:Bool) (x y:List PV) (j:Nat),pvS (AD (cond b x y) j)=cond b (pvS (AD x j)) (pvS (AD y j)))∧(∀ (b:Bool) (x y:List PV) (j:Nat),pvL (AD (cond b x y) j)=cond b (pvL (AD x j)) (pvL (AD y j))):=⟨vC,uy,uz,ur⟩
theorem PXn:(∀ a b:Bool,(!(a||b))=(!a && !b))∧(∀ a b:Bool,(!(a&&b))=(!a || !b))∧(∀ b p:Bool,cond b false p=(!b&&p))∧(∀ b p:Bool,cond b p true=(!b||p)):=⟨by decide,by decide,uG,vD⟩
structure Inn where
 side:Int
 target:Int
 overs:Int
 runs:Int
 wickets:Int
 wides:Int
 noballs:Int
 byes:Int
 legbyes:Int
 pens:Int
 complete:Int
 inover:Int
 striker:Int
 other:Int
 batters:Rows
 bowler:Int
 bowlers:Rows
 before:Rows
 fresh:Bool
 bowled:Rows
 freehit:Bool
 ballage:Int
 keeper:Int
 outside:Int
 subs:Rows
 rev1:Int
 rev2:Int
 ending:Int
structure Rul where
 name:ByteArray
 side:Int
 innings:Int
 overs:Int
 balls:Int
 quota:Int
 wide:Int
 noball:Int
 freehit:Bool
 newball:Int
 followon:Int
 reviews:Int
 outside:Int
 power:Rows
structure Del where
 type:Int
 source:Int
 runs:Int
 short:Int
 boundary:Int
 crossed:Bool
 how:Int
 victim:Int
 fielder:Int
 second:Int
 sub:Bool
 sector:Int
structure Ev where
 kind:Int
 side:Int
 player:Int
 other:Int
 yes:Bool
 runs:Int
 overs:Int
 ball:Del
def Inn.ls (s:Inn):List PV:=[.int s.side,.int s.target,.int s.overs,.int s.runs,.int s.wickets,.int s.wides,.int s.noballs,.int s.byes,.int s.legbyes,.int s.pens,.int s.complete,.int s.inover,.int s.striker,.int s.other,.rows s.batters,.int s.bowler,.rows s.bowlers,.rows s.before,.bool s.fresh,.rows s.bowled,.bool s.freehit,.int s.ballage,.int s.keeper,.int s.outside,.rows s.subs,.int s.rev1,.int s.rev2,.int s.ending]
def Rul.ls (r:Rul):List PV:=[.str r.name,.int r.side,.int r.innings,.int r.overs,.int r.balls,.int r.quota,.int r.wide,.int r.noball,.bool r.freehit,.int r.newball,.int r.followon,.int r.reviews,.int r.outside,.rows r.power]
def Del.ls (d:Del):List PV:=[.int d.type,.int d.source,.int d.runs,.int d.short,.int d.boundary,.bool d.crossed,.int d.how,.int d.victim,.int d.fielder,.int d.second,.bool d.sub,.int d.sector]
def BG (x:Inn×Int):List PV:=[.int x.1.side,.int x.1.target,.int x.1.overs,.int x.1.runs,.int x.1.wickets,.int x.1.wides,.int x.1.noballs,.int x.1.byes,.int x.1.legbyes,.int x.1.pens,.int x.1.complete,.int x.1.inover,.int x.1.striker,.int x.1.other,.rows x.1.batters,.int x.1.bowler,.rows x.1.bowlers,.rows x.1.before,.bool x.1.fresh,.rows x.1.bowled,.bool x.1.freehit,.int x.1.ballage,.int x.1.keeper,.int x.1.outside,.rows x.1.subs,.int x.1.rev1,.int x.1.rev2,.int x.1.ending,.int x.2]
structure Fit (bt bw bf bd sb:Rows):Prop where
 bt:bt.length≤1048576
 bw:bw.length≤1048576
 bf:bf.length≤1048576
 bd:bd.length≤1048576
 sb:sb.length≤1048576
theorem Fit.bw' {bt bw bf bd sb:Rows} (h:Fit bt bw bf bd sb):bw.length≤1048576:=h.bw
theorem tW {L:Rows} {b:Nat} (h:L.length≤1048576) (hb:b≤4096):iSm (L.length:Int) b=true:=ID (by omega) hb
abbrev Inn.Fit (s:Inn):Prop:=Px.Fit s.batters s.bowlers s.before s.bowled s.subs
def inR (p:Int) (n:Nat):Bool:=iLe 1 p&&iLe p (n:Int)
theorem Kj {p:Int} {n:Nat} (h:inR p n=true) (hn:n≤1048576):iIn (IntKind.i64.wrap (p - 1)) (n:Int)=true:=by
 simp only [inR,iLe,zzk,decide_eq_true_eq] at h;rw [Bg (by omega) (by omega)];simp only [iIn,decide_eq_true_eq];omega
theorem ue (b:Bool) (x y z:Int):(cond b x y==z)=cond b (x==z) (y==z):=by cases b<;>rfl
theorem tT (b:Bool) (x y:Int):cond b [PV.int x] [PV.int y]=[PV.int (cond b x y)]:=by cases b<;>rfl
theorem KC:((0:Nat):Int)=0:=rfl
theorem jO:((1:Nat):Int)=1:=rfl
theorem tP:((2:Nat):Int)=2:=rfl
theorem uM:((3:Nat):Int)=3:=rfl
theorem dV {a b c:Int} (h:(a==b)=true) (hbc:(b==c)=false):(a==c)=false:=by rw [beq_iff_eq.1 h];exact hbc
theorem tO (b x:Bool):cond b b x=(b||x):=by cases b<;>rfl
theorem Inn.eta (s:Inn):Inn.mk s.side s.target s.overs s.runs s.wickets s.wides s.noballs s.byes s.legbyes s.pens s.complete s.inover s.striker s.other s.batters s.bowler s.bowlers s.before s.fresh s.bowled s.freehit s.ballage s.keeper s.outside s.subs s.rev1 s.rev2 s.ending=s:=rfl
theorem Rul.eta (r:Rul):Rul.mk r.name r.side r.innings r.overs r.balls r.quota r.wide r.noball r.freehit r.newball r.followon r.reviews r.outside r.power=r:=rfl
theorem ui {p:Int} {n:Nat} {X Y:Option (List PV)} (hn:n≤1048576):cond (inR p n) (cond (iIn (IntKind.i64.wrap (p - 1)) (n:Int)) X none) Y=cond (inR p n) X Y:=by
 cases h:inR p n with
 | false=>rfl
 | true=>rw [Kj h hn];rfl
def ix (p:Int):Nat:=(IntKind.i64.wrap (p - 1)).toNat
def Nf (L:Rows) (p v:Int):Rows:=L.set (ix p) (A4 (AK L (ix p)) 0 [.int v])
def rI (L:Rows) (p:Int) (v:Bool):Rows:=L.set (ix p) (A4 (AK L (ix p)) 0 [.bool v])
theorem LI (L:Rows) (p v:Int):(Nf L p v).length=L.length:=by simp [Nf]
theorem pd (L:Rows) (p:Int) (v:Bool):(rI L p v).length=L.length:=by simp [rI]
theorem BZ {L:Rows} {b:Nat} (h:L.length≤1048576) (hb:b≤4096):Oy b [.rows L]=some [.rows L]:=by
 have h1:=ID (n:=L.length) (b:=b) (by omega) hb;have:Xz L.length b=true:=by
  simp only [iSm,decide_eq_true_eq] at h1;simp only [Xz,decide_eq_true_eq];have h2:=h1.2.2.1;rw [← Int.natCast_mul] at h2;omega
 simp only [Oy,this]
def C2 (L:Rows):Bool:=Bd (fun i => !(atI L i 0==0)) L.length 0
def GV (L:Rows) (s n:Int):Bool:=C2 L&&(s==0||n==0)
def EI (L:Rows):Nat→Rows
 | 0=>[]
 | i+1=>cond (atI L i 0==0||atI L i 0==3) (EI L i++[[.int ((i:Int)+1)]]) (EI L i)
theorem ZJ (L:Rows):∀ i,(EI L i).length≤i
 | 0=>Nat.le_refl _
 | i+1=>by
  have:=ZJ L i;unfold EI;cases (atI L i 0==0||atI L i 0==3)
  ·exact Nat.le_succ_of_le this
  ·simp;exact this
theorem tD {v:Int} (h:(v==1)=true):(v==2)=false:=by
 have:=beq_iff_eq.1 h;rw [beq_eq_false_iff_ne];omega
theorem PXm : (∀ (b : Bool) (x y : List PV), cond b (some x) (some y) = some (cond b x y)) ∧ (∀ {α : Type} (b : Bool) (x : α), cond b x x = x) ∧ (∀ b x : Bool, cond b b x = (b || x)) ∧ (((0 : Nat) : Int) = 0) ∧ (((1 : Nat) : Int) = 1) ∧ (((2 : Nat) : Int) = 2) ∧ (((3 : Nat) : Int) = 3) ∧
    (∀ (b:Bool) (x y:Int),cond b [PV.int x] [PV.int y]=[PV.int (cond b x y)])∧(∀ (b x y:Bool),cond b [PV.bool x] [PV.bool y]=[PV.bool (cond b x y)])∧(∀ {α:Type} (l:List α) (i:Nat) (a:α),(l.set i a).length=l.length) ∧
    (∀ (b:Bool) (x y z:Int),(cond b x y==z)=cond b (x==z) (y==z))∧(∀ x:Int,(x==x)=true)∧(∀ x:Bool,(x==x)=true) ∧
    (∀ s:Inn,s.ls=[.int s.side,.int s.target,.int s.overs,.int s.runs,.int s.wickets,.int s.wides,.int s.noballs,.int s.byes,.int s.legbyes,.int s.pens,.int s.complete,.int s.inover,.int s.striker,.int s.other,.rows s.batters,.int s.bowler,.rows s.bowlers,.rows s.before,.bool s.fresh,.rows s.bowled,.bool s.freehit,.int s.ballage,.int s.keeper,.int s.outside,.rows s.subs,.int s.rev1,.int s.rev2,.int s.ending]) ∧
    (∀ x:Inn×Int,BG x=[.int x.1.side,.int x.1.target,.int x.1.overs,.int x.1.runs,.int x.1.wickets,.int x.1.wides,.int x.1.noballs,.int x.1.byes,.int x.1.legbyes,.int x.1.pens,.int x.1.complete,.int x.1.inover,.int x.1.striker,.int x.1.other,.rows x.1.batters,.int x.1.bowler,.rows x.1.bowlers,.rows x.1.before,.bool x.1.fresh,.rows x.1.bowled,.bool x.1.freehit,.int x.1.ballage,.int x.1.keeper,.int x.1.outside,.rows x.1.subs,.int x.1.rev1,.int x.1.rev2,.int x.1.ending,.int x.2]) ∧
    (∀ s:Inn,Inn.mk s.side s.target s.overs s.runs s.wickets s.wides s.noballs s.byes s.legbyes s.pens s.complete s.inover s.striker s.other s.batters s.bowler s.bowlers s.before s.fresh s.bowled s.freehit s.ballage s.keeper s.outside s.subs s.rev1 s.rev2 s.ending=s) ∧
    (∀ r:Rul,Rul.mk r.name r.side r.innings r.overs r.balls r.quota r.wide r.noball r.freehit r.newball r.followon r.reviews r.outside r.power=r) :=
  ⟨ua,tV,tO,KC,jO,tP,uM,tT,ug,fun _ _ _=>List.length_set,ue,fun _=>beq_self_eq_true _,fun _=>beq_self_eq_true _,fun _=>rfl,fun _=>rfl,Inn.eta,Rul.eta⟩
end Go.Px
end
