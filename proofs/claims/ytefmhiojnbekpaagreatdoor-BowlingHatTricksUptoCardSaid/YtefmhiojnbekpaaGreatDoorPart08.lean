/- Part 8. -/
import Derived.Test.YtefmhiojnbekpaaGreatDoorPart07
import Derived.Lib.Bytealg
import Derived.Lib.Strings
import Derived.Lib.Join
import Derived.Lib.ItoaNum
import Derived.Below
set_option linter.unusedVariables false
set_option linter.unusedSimpArgs false
section
namespace Go.Px
open Go.RowKit
def pY (ls:List PV):Option (List PV):=match ls with
 | [.str s,.int c]=>some [.int (Lib.indexByte s.data.toList c.toNat.toUInt8)]
 | _=>none
theorem yx {P : Program} {f : FuncId} {T5 T9 T3 : TypeId} {fn : Func} (hfn : P.funcs[f]? = some fn) (hp : fn.params = #[T9, T5]) (hr : fn.resultTypes = #[T3]) (h9 : P.underlying T9 = some .string) (h5 : P.underlying T5 = some (.int .u8)) (h3 : P.underlying T3 = some (.int .i64)) (h3t : AU P T3 = some [T3])
    (hc:∀ (s:ByteArray) (c:Int) (w:World),Calls P f #[.string s,.int .u8 c] w fun e w'=>e=.returned (.int .i64 (Lib.indexByte s.data.toList c.toNat.toUInt8))∧w'=w)
    {E':Env} {N':Nat} (h:∀ ls,E' f [] ls=pY ls):VV P E' N' ⟨f,[],true,true,[],[]⟩:=by
  have l9:AM P T9=.str:=by simp [AM,h9]
  have l5:AM P T5=.int .u8:=by simp [AM,h5]
  have l3:AM P T3=.int .i64:=by simp [AM,h3]
  have a3:AW P T3=false:=by simp [AW,h3]
  have a5:AW P T5=false:=by simp [AW,h5]
  have a9:AW P T9=false:=by simp [AW,h9]
  have ty:∀ {T:TypeId} {x:List TypeId} {d:TypeDesc},P.underlying T=some d→(∀ k,Bd P (k+1) T=some [T])→AU P T=some x→x=[T]:=fun {T x d} _ hk hx=>by
    unfold AU at hx;rw [show C6=19+1 from rfl,hk] at hx;simp only at hx
    split at hx
    · cases hx;rfl
    · cases hx
  have main : ∀ own', ∀ (ls rs : List PV), E' f [] ls = some rs → ∀ fn', P.funcs[f]? = some fn' → ∀ (vs : List (AV (std E' N'))) (hs : List (Nat × HEnt (std E' N'))), A6 (O := std E' N') P [] 1 fn'.params.toList [] (ls.map PV.leaf) = some (vs, hs) →
      ∀ (n0:Nz) (σ:Nat→Option (Nat×Nat)) (w:World) (args:List Value),n0.n=w.heap.size→Mem P n0 noB σ (AR hs) w→RelArgs P n0 noB σ (AR hs) w vs args→Kept P noB σ (AR hs) w→Calls P f args.toArray w (Ret (E:=E') (N:=N') P ⟨f,[],own',true,[],[]⟩ n0 σ (AR hs) w fn' rs) :=
    fun own' ls rs he fn' hfn' vs hs hv n0 σ w args hn0 m hra hkp=>by
      rw [hfn] at hfn';cases hfn';rw [h] at he;unfold pY at he
      split at he
      case h_2=>cases he
      rename_i s c;cases he;rw [hp] at hv;have hT9:AU P T9=none∨AU P T9=some [T9]:=by
        cases hx:AU P T9 with
        | none=>exact .inl rfl
        | some x=>exact .inr (by rw [ty h9 (fun k=>by simp [Bd,h9]) hx])
      have hT5:AU P T5=none∨AU P T5=some [T5]:=by
        cases hx:AU P T5 with
        | none=>exact .inl rfl
        | some x=>exact .inr (by rw [ty h5 (fun k=>by simp [Bd,h5]) hx])
      unfold A6 at hv;simp only [l9] at hv
      rcases hT9 with hT9 | hT9
      · simp [hT9] at hv
      simp only [hT9,List.map_cons,List.map_nil,PV.leaf,As,l9,Option.map_some] at hv;unfold A6 at hv;simp only [l5] at hv
      rcases hT5 with hT5 | hT5
      · simp [hT5] at hv
      simp [hT5,As,l5,A6,a9,a5] at hv;obtain ⟨rfl,rfl⟩:=hv;obtain ⟨v1,v2,rfl⟩:∃ v1 v2,args=[v1,v2]:=by
        have:=hra.len
        match args,this with
        | [v1,v2],_=>exact ⟨v1,v2,rfl⟩
      obtain ⟨q1,q2,_⟩:=hra;have q1:RelVal P n0 noB σ (AR []) w (⟨false,[.str s]⟩:Val (std E' N')) v1:=q1;have q2:RelVal P n0 noB σ (AR []) w (⟨false,[.int .u8 c]⟩:Val (std E' N')) v2:=q2;obtain ⟨g1,g2⟩:=q1;have g2:v1.oneCell'=true:=g2;rw [BS g2] at g1;have e1:v1=.string s:=g1.1;obtain ⟨k1,k2⟩:=q2;have k2:v2.oneCell'=true:=k2;rw [BS k2] at k1;have e2:v2=.int .u8 c:=k1.1;subst e1;subst e2;refine Calls.mono (hc s c w) (fun e w' hp2=>?_);obtain ⟨rfl,rfl⟩:=hp2;refine ⟨rfl,rfl,rfl,Nat.le_refl _,fun _ _ _=>rfl,fun q=>⟨fun _=>none,[⟨false,[.int .i64 _]⟩],[],?_,⟨fun _ _ h=>(by cases h),fun _ _ h=>(by cases h),fun _ _ _ _ _ h=>(by cases h),fun _ _ _ _ _ _ _ h=>(by cases h),fun _ _ _ _ _ _ h=>(by cases h)⟩,⟨⟨rfl,trivial⟩,rfl⟩,fun b hb=>?_⟩⟩
      · rw [hr];simp [BR,h3t,Az,l3,a3];rfl
      · rcases hb with ⟨_,_,hx,_⟩ | ⟨_,_,_,hx,_⟩
        · cases hx
        · cases hx
  exact ⟨HC (ci:=⟨f,[],true,true,[],[]⟩) (main true),HC (ci:=⟨f,[],false,true,[],[]⟩) (main false)⟩
end Go.Px
end
section
namespace Go.Px
def cI (n:Nat):CI:=⟨n,[],true,true,[],[]⟩
def Vd (P:Program) (n:Nat) (c:Nat→List PV→Option (List PV)):Prop:=∀ {E:Env} {M:Nat} (N:Nat),(∀ ls,E n [] ls=c N ls)→VV P E M (cI n)
def eL (l:List (Nat×(Nat→List PV→Option (List PV)))) (N:Nat):Env:=fun f fns ls=>match l with
 | []=>none
 | p::r=>cond (Nat.beq f p.1&&AF fns []) (p.2 N ls) (eL r N f fns ls)
def oS (ks:List Nat) (t:∀ O:Alg,Ags O→O.M) (env:Nat→Env) (N:Nat) (ls:List PV):Option (List PV):=U1 ks ls (t (std (env N) N) (xOf ls))
inductive Gs (P:Program):List (Nat×(Nat→List PV→Option (List PV)))→Prop
 | nil:Gs P []
 | cons {n:Nat} {c:Nat→List PV→Option (List PV)} {l:List (Nat×(Nat→List PV→Option (List PV)))} (h:Vd P n c) (t:Gs P l):Gs P ((n,c)::l)
theorem g0 {P:Program}:Gs P []:=.nil
theorem gs {P:Program} {n:Nat} {c:Nat→List PV→Option (List PV)} {l:List (Nat×(Nat→List PV→Option (List PV)))} (h:Vd P n c) (t:Gs P l):Gs P ((n,c)::l):=.cons h t
def NL:List Nat→Bool
 | []=>true
 | n::l=>l.all (fun m => !Nat.beq m n)&&NL l
theorem ACc {l:List (Nat×(Nat→List PV→Option (List PV)))} {N:Nat}:∀ {pre:List (Nat×(Nat→List PV→Option (List PV)))} {n:Nat} {c:Nat→List PV→Option (List PV)} {ls:List PV},pre.all (fun p => !Nat.beq n p.1)=true→eL (pre++(n,c)::l) N n [] ls=c N ls
 | [],n,c,ls,_=>by
  show cond (Nat.beq n n&&true) (c N ls) _=_;rw [Nat.beq_refl];rfl
 | p::pre,n,c,ls,h=>by
  rw [List.all_cons,zzk] at h;have h1:Nat.beq n p.1=false:=by
   have:=h.1;simpa using this
  show cond (Nat.beq n p.1&&true) _ (eL (pre++(n,c)::l) N n [] ls)=_;rw [h1];exact ACc h.2
theorem ACH {P:Program} {N:Nat}:∀ {l:List (Nat×(Nat→List PV→Option (List PV)))} {pre:List (Nat×(Nat→List PV→Option (List PV)))},Gs P l→(∀ p∈l,pre.all (fun q => !Nat.beq p.1 q.1)=true)→NL (l.map (·.1))=true→∀ ci∈l.map (fun p=>cI p.1),VV P (eL (pre++l) N) N ci
 | [],_,_,_,_,ci,h=>by cases h
 | (n,c)::l,pre,.cons hv ht,hp,ha,ci,h=>by
  rw [List.map_cons,List.mem_cons] at h
  rcases h with h | h
  ·subst h;exact hv N (fun ls=>ACc (hp (n,c) (zzm ..)))
  ·simp only [List.map_cons,NL,zzk] at ha;have:=ACH (N:=N) (pre:=pre++[(n,c)]) ht (fun p hm=>by
    rw [List.all_append,hp p (zzn _ hm),Bool.true_and];have h1:=List.all_eq_true.1 ha.1 p.1 (List.mem_map.2 ⟨p,hm,rfl⟩);simpa using h1) ha.2 ci h
   rw [List.append_assoc] at this;exact this
theorem vti {P : Program} (hmix : P.follows .mixedOrders = true) (imm old : Bool) (ie : List Nat) {n : Nat} {c : Nat → List PV → Option (List PV)} (ks : List Nat) (t : ∀ O : Alg, Ags O → O.M) (l : List (Nat × (Nat → List PV → Option (List PV)))) (hg : Gs P l) (ha : NL (l.map (·.1)) = true)
    (hc:∀ N ls,c N ls=U1 ks ls (t (std (eL l N) N) (xOf ls)))
    (hx:∀ (O:Alg) (x:Ags O),XF (O:=O) P { gam:=l.map (fun p=>cI p.1),imm:=imm,old:=old,ie:=ie } (fun _=>true) true [] n [] (xr x ks 0)=t O x):Vd P n c:=fun N h =>
  A9 hmix (E:=eL l N) (N:=N) (cfg:={ gam:=l.map (fun p=>cI p.1),imm:=imm,old:=old,ie:=ie }) (ci:=cI n) (ACH (pre:=[]) hg (fun _ _=>rfl) ha) (hc N) (fun ls=>hx _ _) h
theorem vt {P : Program} (hmix : P.follows .mixedOrders = true) {n : Nat} {c : Nat → List PV → Option (List PV)} (ks : List Nat) (t : ∀ O : Alg, Ags O → O.M) (l : List (Nat × (Nat → List PV → Option (List PV)))) (hg : Gs P l) (ha : NL (l.map (·.1)) = true)
    (hc:∀ N ls,c N ls=U1 ks ls (t (std (eL l N) N) (xOf ls)))
    (hx:∀ (O:Alg) (x:Ags O),XF (O:=O) P { gam:=l.map (fun p=>cI p.1) } (fun _=>true) true [] n [] (xr x ks 0)=t O x):Vd P n c:=vti hmix false false [] ks t l hg ha hc hx
theorem vE {P:Program} {n:Nat} {c:Nat→List PV→Option (List PV)} (v:Vd P n c) {E:Env} {M:Nat} (N:Nat) (h:∀ ls,E n [] ls=c N ls):VV P E M (cI n):=v N h
open Go.RowKit
def ADv (i:Nat):List UInt8:=cond (Nat.blt i 10) [UInt8.ofNat (48+i)] [UInt8.ofNat (48+i / 10),UInt8.ofNat (48+i % 10)]
theorem AFV {i:Nat} (h:i<100):ADv i=Lib.decDigits i:=by
 unfold ADv;cases hb:Nat.blt i 10 with
 | true =>
  have:i<10:=of_eq_true (Nat.blt_eq▸eq_true hb);rw [Lib.decDigits,dif_pos this];rfl
 | false =>
  have:¬ i<10:=fun hx=>by
   rw [← Nat.blt_eq,hb] at hx;cases hx
  rw [Lib.decDigits,dif_neg this,Lib.decDigits,dif_pos (show i / 10<10 by omega)];rfl
def ABx (i:Int):Option (List PV):=cond (decide (0≤i)&&decide (i<100)) (some [.str ⟨(ADv i.toNat).toArray⟩]) none
def AAt (ls:List PV):Option (List PV):=match ls with
 | [.int i]=>ABx i
 | _=>none
def AEM (ls:List PV):Option (List PV):=match ls with
 | [.int i,.int b]=>cond (b==10) (ABx i) none
 | _=>none
theorem AFr {P:Program} {T:TypeId} {x:List TypeId} (hk:∀ k,Bd P (k+1) T=some [T]) (hx:AU P T=some x):x=[T]:=by
 unfold AU at hx;rw [show C6=19+1 from rfl,hk] at hx;simp only at hx
 split at hx
 ·cases hx;rfl
 ·cases hx
theorem AB4 {P:Program} {T:TypeId} (hk:∀ k,Bd P (k+1) T=some [T]):AU P T=none∨AU P T=some [T]:=by
 cases hx:AU P T with
 | none=>exact .inl rfl
 | some x=>exact .inr (by rw [AFr hk hx])
theorem sw {i:Int} {rs:List PV} (h:ABx i=some rs):∃ n:Nat,i=n∧n<100∧rs=[.str ⟨(Lib.decDigits n).toArray⟩]:=by
 unfold ABx at h;cases hb:(decide (0≤i)&&decide (i<100)) with
 | false=>rw [hb] at h;cases h
 | true =>
  rw [hb] at h;rw [zzk,decide_eq_true_eq,decide_eq_true_eq] at hb;refine ⟨i.toNat,by omega,by omega,?_⟩;rw [← AFV (by omega)];exact (Option.some.inj h).symm
theorem ABI {P : Program} {f : FuncId} {T3 T9 : TypeId} {fn : Func} (hfn : P.funcs[f]? = some fn) (hp : fn.params = #[T3]) (hr : fn.resultTypes = #[T9]) (h3 : P.underlying T3 = some (.int .i64)) (h9 : P.underlying T9 = some .string) (h9t : AU P T9 = some [T9])
    (hc:∀ (i:Nat),i<100→∀ w:World,Calls P f #[.int .i64 i] w fun e w'=>e=.returned (.string ⟨(Lib.decDigits i).toArray⟩)∧w'=w)
    {E':Env} {N':Nat} (h:∀ ls,E' f [] ls=AAt ls):VV P E' N' ⟨f,[],true,true,[],[]⟩:=by
  have l3:AM P T3=.int .i64:=by simp [AM,h3]
  have l9:AM P T9=.str:=by simp [AM,h9]
  have a3:AW P T3=false:=by simp [AW,h3]
  have a9:AW P T9=false:=by simp [AW,h9]
  have main : ∀ own', ∀ (ls rs : List PV), E' f [] ls = some rs → ∀ fn', P.funcs[f]? = some fn' → ∀ (vs : List (AV (std E' N'))) (hs : List (Nat × HEnt (std E' N'))), A6 (O := std E' N') P [] 1 fn'.params.toList [] (ls.map PV.leaf) = some (vs, hs) →
      ∀ (n0:Nz) (σ:Nat→Option (Nat×Nat)) (w:World) (args:List Value),n0.n=w.heap.size→Mem P n0 noB σ (AR hs) w→RelArgs P n0 noB σ (AR hs) w vs args→Kept P noB σ (AR hs) w→Calls P f args.toArray w (Ret (E:=E') (N:=N') P ⟨f,[],own',true,[],[]⟩ n0 σ (AR hs) w fn' rs) :=
    fun own' ls rs he fn' hfn' vs hs hv n0 σ w args hn0 m hra hkp=>by
      rw [hfn] at hfn';cases hfn';rw [h] at he;unfold AAt at he
      split at he
      case h_2=>cases he
      rename_i c;obtain ⟨n,rfl,hn,rfl⟩:=sw he;rw [hp] at hv;unfold A6 at hv;simp only [l3] at hv
      rcases AB4 (P:=P) (T:=T3) (fun k=>by simp [Bd,h3]) with hT | hT
      · simp [hT] at hv
      simp [hT,PV.leaf,As,l3,A6,a3] at hv;obtain ⟨rfl,rfl⟩:=hv;obtain ⟨v1,rfl⟩:∃ v1,args=[v1]:=by
        have:=hra.len
        match args,this with
        | [v1],_=>exact ⟨v1,rfl⟩
      obtain ⟨q1,_⟩:=hra;have q1:RelVal P n0 noB σ (AR []) w (⟨false,[.int .i64 (n:Int)]⟩:Val (std E' N')) v1:=q1;obtain ⟨g1,g2⟩:=q1;have g2:v1.oneCell'=true:=g2;rw [BS g2] at g1;have e1:v1=.int .i64 n:=g1.1;subst e1;refine Calls.mono (hc n hn w) (fun e w' hp2=>?_);obtain ⟨rfl,rfl⟩:=hp2;refine ⟨rfl,rfl,rfl,Nat.le_refl _,fun _ _ _=>rfl,fun q=>⟨fun _=>none,[⟨false,[.str _]⟩],[],?_,⟨fun _ _ h=>(by cases h),fun _ _ h=>(by cases h),fun _ _ _ _ _ h=>(by cases h),fun _ _ _ _ _ _ _ h=>(by cases h),fun _ _ _ _ _ _ h=>(by cases h)⟩,⟨⟨rfl,trivial⟩,rfl⟩,fun b hb=>?_⟩⟩
      · rw [hr];simp [BR,h9t,Az,l9,a9];rfl
      · rcases hb with ⟨_,_,hx,_⟩ | ⟨_,_,_,hx,_⟩
        · cases hx
        · cases hx
  exact ⟨HC (ci:=⟨f,[],true,true,[],[]⟩) (main true),HC (ci:=⟨f,[],false,true,[],[]⟩) (main false)⟩
theorem ACV {P : Program} {f : FuncId} {T2 T3 T9 : TypeId} {fn : Func} (hfn : P.funcs[f]? = some fn) (hp : fn.params = #[T2, T3]) (hr : fn.resultTypes = #[T9]) (h2 : P.underlying T2 = some (.int .i64)) (h3 : P.underlying T3 = some (.int .i64)) (h9 : P.underlying T9 = some .string) (h9t : AU P T9 = some [T9])
    (hc:∀ (i:Nat),i<100→∀ w:World,Calls P f #[.int .i64 i,.int .i64 10] w fun e w'=>e=.returned (.string ⟨(Lib.decDigits i).toArray⟩)∧w'=w)
    {E':Env} {N':Nat} (h:∀ ls,E' f [] ls=AEM ls):VV P E' N' ⟨f,[],true,true,[],[]⟩:=by
  have l2:AM P T2=.int .i64:=by simp [AM,h2]
  have l3:AM P T3=.int .i64:=by simp [AM,h3]
  have l9:AM P T9=.str:=by simp [AM,h9]
  have a2:AW P T2=false:=by simp [AW,h2]
  have a3:AW P T3=false:=by simp [AW,h3]
  have a9:AW P T9=false:=by simp [AW,h9]
  have main : ∀ own', ∀ (ls rs : List PV), E' f [] ls = some rs → ∀ fn', P.funcs[f]? = some fn' → ∀ (vs : List (AV (std E' N'))) (hs : List (Nat × HEnt (std E' N'))), A6 (O := std E' N') P [] 1 fn'.params.toList [] (ls.map PV.leaf) = some (vs, hs) →
      ∀ (n0:Nz) (σ:Nat→Option (Nat×Nat)) (w:World) (args:List Value),n0.n=w.heap.size→Mem P n0 noB σ (AR hs) w→RelArgs P n0 noB σ (AR hs) w vs args→Kept P noB σ (AR hs) w→Calls P f args.toArray w (Ret (E:=E') (N:=N') P ⟨f,[],own',true,[],[]⟩ n0 σ (AR hs) w fn' rs) :=
    fun own' ls rs he fn' hfn' vs hs hv n0 σ w args hn0 m hra hkp=>by
      rw [hfn] at hfn';cases hfn';rw [h] at he;unfold AEM at he
      split at he
      case h_2=>cases he
      rename_i c b;cases hb10:b==10 with
      | false=>rw [hb10] at he;cases he
      | true =>
      rw [hb10] at he;have hb:=beq_iff_eq.1 hb10;subst hb;obtain ⟨n,rfl,hn,rfl⟩:=sw he;rw [hp] at hv;unfold A6 at hv;simp only [l2] at hv
      rcases AB4 (P:=P) (T:=T2) (fun k=>by simp [Bd,h2]) with hT | hT
      · simp [hT] at hv
      simp only [hT,List.map_cons,List.map_nil,PV.leaf,As,l2,Option.map_some] at hv;unfold A6 at hv;simp only [l3] at hv
      rcases AB4 (P:=P) (T:=T3) (fun k=>by simp [Bd,h3]) with hT3 | hT3
      · simp [hT3] at hv
      simp [hT3,As,l3,A6,a2,a3] at hv;obtain ⟨rfl,rfl⟩:=hv;obtain ⟨v1,v2,rfl⟩:∃ v1 v2,args=[v1,v2]:=by
        have:=hra.len
        match args,this with
        | [v1,v2],_=>exact ⟨v1,v2,rfl⟩
      obtain ⟨q1,q2,_⟩:=hra;have q1:RelVal P n0 noB σ (AR []) w (⟨false,[.int .i64 (n:Int)]⟩:Val (std E' N')) v1:=q1;have q2:RelVal P n0 noB σ (AR []) w (⟨false,[.int .i64 (10:Int)]⟩:Val (std E' N')) v2:=q2;obtain ⟨g1,g2⟩:=q1;have g2:v1.oneCell'=true:=g2;rw [BS g2] at g1;have e1:v1=.int .i64 n:=g1.1;obtain ⟨k1,k2⟩:=q2;have k2:v2.oneCell'=true:=k2;rw [BS k2] at k1;have e2:v2=.int .i64 10:=k1.1;subst e1;subst e2;refine Calls.mono (hc n hn w) (fun e w' hp2=>?_);obtain ⟨rfl,rfl⟩:=hp2;refine ⟨rfl,rfl,rfl,Nat.le_refl _,fun _ _ _=>rfl,fun q=>⟨fun _=>none,[⟨false,[.str _]⟩],[],?_,⟨fun _ _ h=>(by cases h),fun _ _ h=>(by cases h),fun _ _ _ _ _ h=>(by cases h),fun _ _ _ _ _ _ _ h=>(by cases h),fun _ _ _ _ _ _ h=>(by cases h)⟩,⟨⟨rfl,trivial⟩,rfl⟩,fun b hb=>?_⟩⟩
      · rw [hr];simp [BR,h9t,Az,l9,a9];rfl
      · rcases hb with ⟨_,_,hx,_⟩ | ⟨_,_,_,hx,_⟩
        · cases hx
        · cases hx
  exact ⟨HC (ci:=⟨f,[],true,true,[],[]⟩) (main true),HC (ci:=⟨f,[],false,true,[],[]⟩) (main false)⟩
end Go.Px
end
section
namespace Go.Px
def rB (xs:List Bool):Rows:=xs.map fun n=>[PV.bool n]
theorem Bv {n:Int} (h1 : -9223372036854775808≤n) (h2:n≤9223372036854775807):IntKind.i64.wrap n=n:=by
 unfold IntKind.wrap;simp [IntKind.signed,IntKind.bits];omega
theorem AB (b:Bool) (x y:List PV) (k:List PV→Option (List PV)):(cond b (some x) (some y):Option (List PV)).bind k=k (cond b x y):=by cases b<;>rfl
theorem AGT (b:Bool) (x y:List PV) (j:Nat):pvB (AA (cond b x y) j)=cond b (pvB (AA x j)) (pvB (AA y j)):=by cases b<;>rfl
theorem AGL (b:Bool) (x y:List PV) (j:Nat):pvI (AA (cond b x y) j)=cond b (pvI (AA x j)) (pvI (AA y j)):=by cases b<;>rfl
theorem AGZ (b:Bool) (x y:List PV) (j:Nat):pvS (AA (cond b x y) j)=cond b (pvS (AA x j)) (pvS (AA y j)):=by cases b<;>rfl
theorem AGR (b:Bool) (x y:List PV) (j:Nat):pvL (AA (cond b x y) j)=cond b (pvL (AA x j)) (pvL (AA y j)):=by cases b<;>rfl
theorem SN (b p:Bool):cond b p false=(b&&p):=by cases b<;>rfl
theorem AGd (b p:Bool):cond b true p=(b||p):=by cases b<;>rfl
theorem AFe (b p:Bool):cond b false p=(!b&&p):=by cases b<;>rfl
theorem AGJ (b p:Bool):cond b p true=(!b||p):=by cases b<;>rfl
theorem AFf (b:Bool) (x y:List PV):cond b (some x) (some y)=some (cond b x y):=by cases b<;>rfl
theorem AFo {α:Type} (b:Bool) (x:α):cond b x x=x:=by cases b<;>rfl
theorem AF4 (b p q:Bool):cond b [PV.bool p] [PV.bool q]=[PV.bool (cond b p q)]:=by cases b<;>rfl
theorem sj (p:PV) (r:List PV):AA (p::r) 0=p:=rfl
theorem AC1 (p:PV) (r:List PV) (j:Nat):AA (p::r) (j+1)=AA r j:=by simp [AA]
def XG {St:Type} (body:Nat→St→List PV ⊕ St) (fin:St→List PV):Nat→Nat→St→List PV
 | 0,_,s=>fin s
 | k+1,i,s=>match body i s with
  | .inl r=>r
  | .inr s'=>XG body fin k (i+1) s'
theorem W1 {St : Type} {F : (List Ad → Option (List PV)) → List PV → Option (List PV)} {len : Nat} {enc : Nat → St → List Ad} {body : Nat → St → List PV ⊕ St} {fin : St → List PV} (I : Nat → St → Prop)
    (h0:∀ s self,I len s→F self ((enc len s).map Leaf.pv)=some (fin s))
    (h1:∀ i s self,i<len→I i s→F self ((enc i s).map Leaf.pv)=(match body i s with | .inl r=>some r | .inr s'=>self (enc (i+1) s'))∧∀ s',body i s=.inr s'→I (i+1) s') :
    ∀ (k i:Nat) (s:St) (n:Nat),i+k=len→k<n→I i s→DU F n ((enc i s).map Leaf.pv)=some (XG body fin k i s)
  | 0,i,s,n,hk,hn,hi=>by
    obtain ⟨n,rfl⟩:∃ m,n=m+1:=⟨n - 1,by omega⟩;obtain rfl:i=len:=by omega
    exact h0 s _ hi
  | k+1,i,s,n,hk,hn,hi=>by
    obtain ⟨n,rfl⟩:∃ m,n=m+1:=⟨n - 1,by omega⟩;obtain ⟨h2,h3⟩:=h1 i s (fun ls=>DU F n (ls.map Leaf.pv)) (by omega) hi;show F _ _=_;rw [h2];simp only [XG];cases hb:body i s with
    | inl r=>rfl
    | inr s'=>exact W1 I h0 h1 k (i+1) s' n (by omega) (by omega) (h3 s' hb)
theorem AN {F:(List Ad→Option (List PV))→List PV→Option (List PV)} {n:Nat} {c r:List PV} {k:List PV→Option (List PV)} {g:Option (List PV)} (h:DU F n c=some r) (hk:k r=g):(DU F n c).bind k=g:=by
 rw [h];exact hk
def Bc (ans:Nat→Option (List PV)):Nat→Nat→Option (List PV)
 | 0,_=>none
 | k+1,i=>match ans i with
  | some r=>some r
  | none=>Bc ans k (i+1)
def Nf:Option (List PV)→List PV
 | some r=>.int 0::r
 | none=>[.int 1]
theorem Cg {F : (List Ad → Option (List PV)) → List PV → Option (List PV)} {len : Nat} (ans : Nat → Option (List PV))
    (h0:∀ self,F self [.int (len:Int)]=some [.int 1]) (h1:∀ i self,i<len→F self [.int (i:Int)]=match ans i with | some r=>some (.int 0::r) | none=>self [.int ((i:Int)+1)]) :
    ∀ (k i n:Nat),i+k=len→k<n→DU F n [.int (i:Int)]=some (Nf (Bc ans k i))
  | 0,i,n,hk,hn=>by
    obtain ⟨n,rfl⟩:∃ m,n=m+1:=⟨n - 1,by omega⟩;obtain rfl:i=len:=by omega
    exact h0 _
  | k+1,i,n,hk,hn=>by
    obtain ⟨n,rfl⟩:∃ m,n=m+1:=⟨n - 1,by omega⟩;have h2:=h1 i (fun ls=>DU F n (ls.map Leaf.pv)) (by omega);show F _ _=_;rw [h2];simp only [Bc];cases ha:ans i with
    | some r=>rfl
    | none =>
      have:=Cg ans h0 h1 k (i+1) n (by omega) (by omega);show DU F n [.int ((i:Int)+1)]=_;rw [show ((i:Int)+1)=(((i+1:Nat)):Int) by omega];exact this
def A3 (bad:Nat→Bool) (k i:Nat):Bool:=(List.range' i k).any bad
theorem IX (bad:Nat→Bool) (i:Nat):A3 bad 0 i=false:=rfl
theorem Be (bad:Nat→Bool) (k i:Nat):A3 bad (k+1) i=(bad i||A3 bad k (i+1)):=by simp only [A3,List.range'_succ,List.any_cons]
theorem tx (bad:Nat→Bool) (r:List PV):∀ (k i:Nat),Bc (fun j=>cond (bad j) (some r) none) k i=cond (A3 bad k i) (some r) none
 | 0,i=>rfl
 | k+1,i=>by
  rw [Be];simp only [Bc];cases hb:bad i with
  | true=>rfl
  | false=>rw [Bool.false_or];exact tx bad r k (i+1)
theorem pK {f g:Nat→Bool}:∀ (k i:Nat),(∀ j,i≤j→j<i+k→f j=g j)→A3 f k i=A3 g k i
 | 0,i,_=>rfl
 | k+1,i,h=>by rw [Be,Be,h i (Nat.le_refl _) (by omega),pK k (i+1) (fun j h1 h2=>h j (by omega) (by omega))]
theorem L1 {f:Nat→Bool} {k i:Nat}:A3 f k i=false↔∀ j,i≤j→j<i+k→f j=false:=by
 induction k generalizing i with
 | zero=>simp [IX];intro j h1 h2;omega
 | succ k ih =>
  rw [Be,Bool.or_eq_false_iff,ih];constructor
  ·intro ⟨h1,h2⟩ j h3 h4
   rcases Nat.lt_or_ge i j with h | h
   ·exact h2 j h (by omega)
   ·obtain rfl:j=i:=by omega
    exact h1
  ·intro h;exact ⟨h i (Nat.le_refl _) (by omega),fun j h1 h2=>h j (by omega) (by omega)⟩
theorem Cy {F : (List Ad → Option (List PV)) → List PV → Option (List PV)} {len : Nat} (bad : Nat → Bool) (r : List PV)
    (h0:∀ self,F self [.int (len:Int)]=some [.int 1]) (h1:∀ i self,i<len→F self [.int (i:Int)]=cond (bad i) (some (.int 0::r)) (self [.int ((i:Int)+1)])) (n:Nat) (hn:len<n) :
    DU F n [.int 0]=some (cond (A3 bad len 0) (.int 0::r) [.int 1]):=by
  have:=Cg (F:=F) (len:=len) (fun j=>cond (bad j) (some r) none) h0 (fun i self hi=>by rw [h1 i self hi];cases bad i<;>rfl) len 0 n (by omega) hn;rw [show (0:Int)=((0:Nat):Int) from rfl,this,tx];cases A3 bad len 0<;>rfl
theorem Aa {i:Nat} (h:i≤1099511627776):IntKind.i64.wrap ((i:Int)+1)=(i:Int)+1:=Bv (by omega) (by omega)
theorem AO {i len:Nat} (h:i<len):iIn (i:Int) (len:Int)=true:=by simp [iIn];omega
theorem Af {i len:Nat} (h:i<len):iLt (i:Int) (len:Int)=true:=by simp [iLt];omega
theorem Ak (len:Nat):iLt (len:Int) (len:Int)=false:=by simp [iLt]
theorem bT {F : (List Ad → Option (List PV)) → List PV → Option (List PV)} {len : Nat} (enc : Nat → List Ad) (bad : Nat → Bool) (r fin : List PV)
    (h0:∀ self,F self ((enc len).map Leaf.pv)=some fin) (h1:∀ i self,i<len→F self ((enc i).map Leaf.pv)=cond (bad i) (some r) (self (enc (i+1)))) (n:Nat) (hn:len<n) :
    DU F n ((enc 0).map Leaf.pv)=some (cond (A3 bad len 0) r fin):=by
  have main:∀ (k i n:Nat),i+k=len→k<n→DU F n ((enc i).map Leaf.pv)=some (cond (A3 bad k i) r fin):=by
    intro k
    induction k with
    | zero =>
      intro i n hk hn;obtain ⟨n,rfl⟩:∃ m,n=m+1:=⟨n - 1,by omega⟩;obtain rfl:i=len:=by omega
      exact h0 _
    | succ k ih =>
      intro i n hk hn;obtain ⟨n,rfl⟩:∃ m,n=m+1:=⟨n - 1,by omega⟩;show F _ _=_;rw [h1 i _ (by omega),Be];cases bad i with
      | true=>rfl
      | false=>exact ih (i+1) n (by omega) (by omega)
  exact main len 0 n (by omega) hn
theorem AEw (k i:Nat):A3 (fun _=>false) k i=false:=L1.2 fun _ _ _=>rfl
theorem CV {F : (List Ad → Option (List PV)) → List PV → Option (List PV)} {len : Nat} (enc : Nat → List Ad) (fin : List PV)
    (h0:∀ self,F self ((enc len).map Leaf.pv)=some fin) (h1:∀ i self,i<len→F self ((enc i).map Leaf.pv)=self (enc (i+1))) (n:Nat) (hn:len<n) :
    DU F n ((enc 0).map Leaf.pv)=some fin:=by
  have:=bT (F:=F) enc (fun _=>false) [] fin h0 h1 n hn;rw [AEw] at this;exact this
def HB (p:Nat→Bool):Nat→Option (List PV):=fun j=>cond (p j) (some [.int (j:Int)]) none
def TZ (p:Nat→Bool) (k:Nat):Int:=match Bc (HB p) k 0 with
 | some r=>pvI (AA r 0)
 | none => -1
theorem lf (p:Nat→Bool):∀ k i,iLe 0 (match Bc (HB p) k i with | some r=>pvI (AA r 0) | none => -1)=A3 p k i
 | 0,i=>rfl
 | k+1,i=>by
  rw [Be];simp only [Bc,HB];cases h:p i with
  | true=>simp only [cond_true,sj,Bool.true_or,pvI,iLe];simp
  | false=>rw [Bool.false_or];exact lf p k (i+1)
theorem L7 (p:Nat→Bool) (k:Nat):iLe 0 (TZ p k)=A3 p k 0:=lf p k 0
theorem AEg {i len:Nat} (h:i≤len):iRg 0 (i:Int) (len:Int)=true:=by simp [iRg];omega
theorem DL {n b:Nat} (h:n≤4194304) (hb:b≤4096):iSm (n:Int) b=true:=by
 have:n * b≤4194304 * 4096:=Nat.mul_le_mul h hb;simp only [iSm,decide_eq_true_eq];refine ⟨by omega,by omega,?_,by omega⟩;rw [← Int.natCast_mul];omega
def atI (L:Rows) (i j:Nat):Int:=pvI (AG L i j)
theorem BJ (L:Rows) (i j:Nat):pvI (AG L i j)=atI L i j:=rfl
theorem yJ {L:Rows} {i j k:Nat} (h:j<i):atI (L.take i) j k=atI L j k:=by
 unfold atI AG AE;simp only [zzl];rw [List.getElem?_take_of_lt h]
def Cf (p:Nat→Bool):Nat→Int
 | 0=>0
 | i+1=>cond (p i) (Cf p i+1) (Cf p i)
theorem vj (p:Nat→Bool):∀ i,0≤Cf p i∧Cf p i≤(i:Int)
 | 0=>by simp [Cf]
 | i+1=>by
  have:=vj p i;unfold Cf;cases p i<;>simp only [cond_true,cond_false]<;>omega
theorem cU (p:Nat→Bool) {i:Nat} (h:i≤1099511627776):IntKind.i64.wrap (Cf p i+1)=Cf p i+1:=by
 have:=vj p i;exact Bv (by omega) (by omega)
theorem tc {p q:Nat→Bool}:∀ i,(∀ j,j<i→p j=q j)→Cf p i=Cf q i
 | 0,_=>rfl
 | i+1,h=>by
  unfold Cf;rw [h i (by omega),tc i (fun j hj=>h j (by omega))]
theorem wJ {p q:Nat→Bool}:∀ i,(∀ j,j<i→p j=true→q j=true)→Cf p i≤Cf q i
 | 0,_=>by simp [Cf]
 | i+1,h=>by
  have h1:=wJ i (fun j hj=>h j (by omega));have h2:=h i (by omega);unfold Cf;cases hp:p i with
  | true=>rw [h2 hp];simp only [cond_true];omega
  | false=>cases q i<;>simp only [cond_true,cond_false]<;>omega
theorem ACG {p q:Nat→Bool}:∀ i,(∀ j,j<i→p j=true→q j=true)→Cf p i=Cf q i→∀ j,j<i→p j=q j
 | 0,_,_=>fun j hj=>by omega
 | i+1,h,he=>by
  have h1:=wJ i (fun j hj=>h j (by omega));have h2:=h i (by omega);unfold Cf at he;intro j hj;have hpq:p i=q i∧Cf p i=Cf q i:=by
   cases hp:p i with
   | true =>
    have hq:=h2 hp;rw [hp,hq] at he;simp only [cond_true] at he;exact ⟨hq.symm,by omega⟩
   | false =>
    cases hq:q i with
    | true=>rw [hp,hq] at he;simp only [cond_true,cond_false] at he;omega
    | false=>rw [hp,hq] at he;simp only [cond_false] at he;exact ⟨rfl,he⟩
  rcases Nat.lt_or_ge j i with hji | hji
  ·exact ACG i (fun j hj=>h j (by omega)) hpq.2 j hji
  ·obtain rfl:j=i:=by omega
   exact hpq.1
theorem ADD {p q:Nat→Bool}:∀ i,(∀ j,j<i→p j=true→q j=false)→Cf (fun j=>p j||q j) i=Cf p i+Cf q i
 | 0,_=>rfl
 | i+1,h=>by
  have h1:=ADD i (fun j hj=>h j (by omega));have h2:=h i (by omega);unfold Cf;rw [h1];cases hp:p i with
  | true=>rw [h2 hp];simp only [Bool.true_or,cond_true,cond_false];omega
  | false=>cases q i<;>simp only [Bool.false_or,cond_true,cond_false]<;>omega
theorem vm (s:Int):∀ (i:Nat),0≤s→Cf (fun j=>s==(j:Int)+1) i=cond (!(s==0)&&iLe s (i:Int)) 1 0
 | 0,hs=>by
  have:(!(s==0)&&iLe s ((0:Nat):Int))=false:=by
   rw [Bool.and_eq_false_iff]
   by_cases h:s=0
   ·subst h;exact .inl rfl
   ·exact .inr (by simp only [iLe,decide_eq_false_iff_not];omega)
  rw [this];rfl
 | i+1,hs=>by
  unfold Cf;rw [vm s i hs]
  by_cases h:s=(i:Int)+1
  ·have e1:(s==(i:Int)+1)=true:=by simp [h]
   have e2:iLe s (i:Int)=false:=by simp only [iLe,decide_eq_false_iff_not];omega
   have e3:iLe s ((i+1:Nat):Int)=true:=by simp only [iLe,decide_eq_true_eq];omega
   have e4:(s==0)=false:=by simp only [beq_eq_false_iff_ne];omega
   rw [e1,e2,e3,e4];rfl
  ·have e1:(s==(i:Int)+1)=false:=by simp [h]
   have e2:iLe s (i:Int)=iLe s ((i+1:Nat):Int):=by
    unfold iLe;rw [Bool.eq_iff_iff,decide_eq_true_eq,decide_eq_true_eq];omega
   rw [e1,e2];rfl
theorem fN (f:Nat→Bool):∀ (k i:Nat),A3 f (k+1) i=(A3 f k i||f (i+k))
 | 0,i=>by rw [Be,IX,IX];simp
 | k+1,i=>by rw [Be,fN f k (i+1),Be f k i,Bool.or_assoc];congr 3;omega
theorem pW (f:Nat→Bool):∀ (k i:Nat),A3 f k (i+1)=A3 (fun j=>f (j+1)) k i
 | 0,i=>rfl
 | k+1,i=>by rw [Be,Be,pW f k (i+1)]
def MP (p:Int→Bool) (L:Rows):Bool:=A3 (fun i=>p (atI L i 0)) L.length 0
theorem RI (p:Int→Bool):∀ (L:Rows),MP p L=L.any fun r=>p (pvI (AA r 0))
 | []=>rfl
 | r::L=>by
  have ih:=RI p L;unfold MP at ih ⊢;rw [List.length_cons,Be,pW,List.any_cons,← ih];rfl
theorem xZ (p:Int→Bool) (a b:Rows):MP p (a++b)=(MP p a||MP p b):=by
 rw [RI,RI,RI,List.any_append]
theorem PXb : (∀ {α β : Type} (f : α → β) (a : α) (l : List α), List.map f (a :: l) = f a :: List.map f l) ∧ (∀ {α β : Type} (f : α → β), List.map f [] = []) ∧
    (∀ i:Int,Leaf.pv (.int i:Ad)=.int i)∧(∀ i:Bool,Leaf.pv (.bool i:Ad)=.bool i)∧(∀ i:ByteArray,Leaf.pv (.str i:Ad)=.str i)∧(∀ i:Rows,Leaf.pv (.rows i:Ad)=.rows i) ∧
    (∀ {α β:Type} (a:α) (f:α→Option β),(some a).bind f=f a)∧(∀ (p:PV) (r:List PV),AA (p::r) 0=p)∧(∀ (p:PV) (r:List PV) (j:Nat),AA (p::r) (j+1)=AA r j) ∧
    (∀ n:Int,pvI (.int n)=n)∧(∀ n:Bool,pvB (.bool n)=n)∧(∀ n:ByteArray,pvS (.str n)=n)∧(∀ n:Rows,pvL (.rows n)=n) ∧
    (∀ b p:Bool,cond b p false=(b&&p))∧(∀ b p:Bool,cond b true p=(b||p))∧(∀ {α:Type} (a b:α),cond true a b=a)∧(∀ {α:Type} (a b:α),cond false a b=b) ∧
    (∀ a b:Bool,(a&&(a&&b))=(a&&b))∧(∀ a:Bool,(a&&a)=a)∧(∀ a b:Bool,(a||(a||b))=(a||b))∧(∀ a:Bool,(a||a)=a) ∧
    (∀ a:Bool,(a||true)=true)∧(∀ a:Bool,(a||false)=a)∧(∀ a:Bool,(true||a)=true)∧(∀ a:Bool,(false||a)=a) ∧
    (∀ a:Bool,(a&&true)=a)∧(∀ a:Bool,(a&&false)=false)∧(∀ a:Bool,(true&&a)=a)∧(∀ a:Bool,(false&&a)=false)∧((!true)=false)∧((!false)=true)∧(∀ a:Bool,(!(!a))=a) ∧
    (∀ n:Nat,(n:Int).toNat=n)∧(∀ {O:Alg} (x:Ags O) (j:Nat),xr x [] j=[]) ∧
    (∀ {O:Alg} (x:Ags O) (ks:List Nat) (j:Nat),xr x (0::ks) j=.int (x.I j)::xr x ks (j+1))∧(∀ {O:Alg} (x:Ags O) (ks:List Nat) (j:Nat),xr x (1::ks) j=.bool (x.B j)::xr x ks (j+1)) ∧
    (∀ {O:Alg} (x:Ags O) (ks:List Nat) (j:Nat),xr x (2::ks) j=.str (x.S j)::xr x ks (j+1))∧(∀ {O:Alg} (x:Ags O) (ks:List Nat) (j:Nat),xr x (3::ks) j=.rows (x.L j)::xr x ks (j+1)) ∧
    (∀ (O:Alg) (c:O.C) (j:Nat),cr O c [] j=[])∧(∀ (O:Alg) (c:O.C) (ks:List Nat) (j:Nat),cr O c (0::ks) j=.int (O.h c j)::cr O c ks (j+1))∧(∀ (O:Alg) (c:O.C) (ks:List Nat) (j:Nat),cr O c (1::ks) j=.bool (O.k c j)::cr O c ks (j+1)) ∧
    (∀ (O:Alg) (c:O.C) (ks:List Nat) (j:Nat),cr O c (2::ks) j=.str (O.cS c j)::cr O c ks (j+1))∧(∀ (O:Alg) (c:O.C) (ks:List Nat) (j:Nat),cr O c (3::ks) j=.rows (O.o c j)::cr O c ks (j+1)) ∧
    (∀ (O:Alg) (l:O.L) (i:O.I) (j:Nat),rr O l i [] j=[])∧(∀ (O:Alg) (l:O.L) (i:O.I) (ks:List Nat) (j:Nat),rr O l i (0::ks) j=.int (O.q l i j)::rr O l i ks (j+1))∧(∀ (O:Alg) (l:O.L) (i:O.I) (ks:List Nat) (j:Nat),rr O l i (1::ks) j=.bool (O.rB l i j)::rr O l i ks (j+1)) ∧
    (∀ (O:Alg) (l:O.L) (i:O.I) (ks:List Nat) (j:Nat),rr O l i (2::ks) j=.str (O.rS l i j)::rr O l i ks (j+1))∧(∀ (O:Alg) (l:O.L) (i:O.I) (ks:List Nat) (j:Nat),rr O l i (3::ks) j=.rows (O.rL l i j)::rr O l i ks (j+1)) ∧
    (kI=[0,0,0,0,0,0,0,0,0,0,0,0,0,0,3,0,3,3,1,3,1,0,0,0,3,0,0,0])∧(kR=[2,0,0,0,0,0,0,0,1,0,0,0,0,3])∧(kM=[2,0,0,0,0,0,0,0,1,0,0,0,0,3,0,0,1,3,0,0,0,0,0]) ∧
    (∀ (O:Alg) (b:List O.Lf),ap O [] b=b)∧(∀ (O:Alg) (x:O.Lf) (a b:List O.Lf),ap O (x::a) b=x::ap O a b) ∧
    (∀ {α:Type} (x:α) (a b:List α),x::a++b=x::(a++b))∧(∀ {α:Type} (b:List α),[]++b=b):=by
  repeat' apply And.intro
  all_goals first | decide | (intros;rfl) | exact AC1 | exact SN | exact AGd | exact Int.toNat_natCast
theorem PXc : (∀ (b : Bool) (x y : List PV) (j : Nat), pvB (AA (cond b x y) j) = cond b (pvB (AA x j)) (pvB (AA y j))) ∧ (∀ (b : Bool) (x y : List PV) (j : Nat), pvI (AA (cond b x y) j) = cond b (pvI (AA x j)) (pvI (AA y j))) ∧
    (∀ (b:Bool) (x y:List PV) (j:Nat),pvS (AA (cond b x y) j)=cond b (pvS (AA x j)) (pvS (AA y j)))∧(∀ (b:Bool) (x y:List PV) (j:Nat),pvL (AA (cond b x y) j)=cond b (pvL (AA x j)) (pvL (AA y j))):=⟨AGT,AGL,AGZ,AGR⟩
theorem PXn:(∀ a b:Bool,(!(a||b))=(!a && !b))∧(∀ a b:Bool,(!(a&&b))=(!a || !b))∧(∀ b p:Bool,cond b false p=(!b&&p))∧(∀ b p:Bool,cond b p true=(!b||p)):=⟨by decide,by decide,AFe,AGJ⟩
structure Inn where
 side:Int
 target:Int
 overs:Int
 runs:Int
 wickets:Int
 wides:Int
 noballs:Int
 byes:Int
 legbyes:Int
 pens:Int
 complete:Int
 inover:Int
 striker:Int
 other:Int
 batters:Rows
 bowler:Int
 bowlers:Rows
 before:Rows
 fresh:Bool
 bowled:Rows
 freehit:Bool
 ballage:Int
 keeper:Int
 outside:Int
 subs:Rows
 rev1:Int
 rev2:Int
 ending:Int
structure Rul where
 name:ByteArray
 side:Int
 innings:Int
 overs:Int
 balls:Int
 quota:Int
 wide:Int
 noball:Int
 freehit:Bool
 newball:Int
 followon:Int
 reviews:Int
 outside:Int
 power:Rows
structure Del where
 type:Int
 source:Int
 runs:Int
 short:Int
 boundary:Int
 crossed:Bool
 how:Int
 victim:Int
 fielder:Int
 second:Int
 sub:Bool
 sector:Int
structure Ev where
 kind:Int
 side:Int
 player:Int
 other:Int
 yes:Bool
 runs:Int
 overs:Int
 ball:Del
def Inn.ls (s:Inn):List PV:=[.int s.side,.int s.target,.int s.overs,.int s.runs,.int s.wickets,.int s.wides,.int s.noballs,.int s.byes,.int s.legbyes,.int s.pens,.int s.complete,.int s.inover,.int s.striker,.int s.other,.rows s.batters,.int s.bowler,.rows s.bowlers,.rows s.before,.bool s.fresh,.rows s.bowled,.bool s.freehit,.int s.ballage,.int s.keeper,.int s.outside,.rows s.subs,.int s.rev1,.int s.rev2,.int s.ending]
def Rul.ls (r:Rul):List PV:=[.str r.name,.int r.side,.int r.innings,.int r.overs,.int r.balls,.int r.quota,.int r.wide,.int r.noball,.bool r.freehit,.int r.newball,.int r.followon,.int r.reviews,.int r.outside,.rows r.power]
def Del.ls (d:Del):List PV:=[.int d.type,.int d.source,.int d.runs,.int d.short,.int d.boundary,.bool d.crossed,.int d.how,.int d.victim,.int d.fielder,.int d.second,.bool d.sub,.int d.sector]
def Ag (x:Inn×Int):List PV:=[.int x.1.side,.int x.1.target,.int x.1.overs,.int x.1.runs,.int x.1.wickets,.int x.1.wides,.int x.1.noballs,.int x.1.byes,.int x.1.legbyes,.int x.1.pens,.int x.1.complete,.int x.1.inover,.int x.1.striker,.int x.1.other,.rows x.1.batters,.int x.1.bowler,.rows x.1.bowlers,.rows x.1.before,.bool x.1.fresh,.rows x.1.bowled,.bool x.1.freehit,.int x.1.ballage,.int x.1.keeper,.int x.1.outside,.rows x.1.subs,.int x.1.rev1,.int x.1.rev2,.int x.1.ending,.int x.2]
structure Fit (bt bw bf bd sb:Rows):Prop where
 bt:bt.length≤1048576
 bw:bw.length≤1048576
 bf:bf.length≤1048576
 bd:bd.length≤1048576
 sb:sb.length≤1048576
theorem Fit.bw' {bt bw bf bd sb:Rows} (h:Fit bt bw bf bd sb):bw.length≤1048576:=h.bw
theorem KW {L:Rows} {b:Nat} (h:L.length≤1048576) (hb:b≤4096):iSm (L.length:Int) b=true:=DL (by omega) hb
abbrev Inn.Fit (s:Inn):Prop:=Px.Fit s.batters s.bowlers s.before s.bowled s.subs
def inR (p:Int) (n:Nat):Bool:=iLe 1 p&&iLe p (n:Int)
theorem Dt {p:Int} {n:Nat} (h:inR p n=true) (hn:n≤1048576):iIn (IntKind.i64.wrap (p - 1)) (n:Int)=true:=by
 simp only [inR,iLe,zzk,decide_eq_true_eq] at h;rw [Bv (by omega) (by omega)];simp only [iIn,decide_eq_true_eq];omega
theorem AEK (b:Bool) (x y z:Int):(cond b x y==z)=cond b (x==z) (y==z):=by cases b<;>rfl
theorem AGE (b:Bool) (x y:Int):cond b [PV.int x] [PV.int y]=[PV.int (cond b x y)]:=by cases b<;>rfl
theorem Cv:((0:Nat):Int)=0:=rfl
theorem Vk:((1:Nat):Int)=1:=rfl
theorem AF7:((2:Nat):Int)=2:=rfl
theorem AFx:((3:Nat):Int)=3:=rfl
theorem RK {a b c:Int} (h:(a==b)=true) (hbc:(b==c)=false):(a==c)=false:=by rw [beq_iff_eq.1 h];exact hbc
theorem AFI (b x:Bool):cond b b x=(b||x):=by cases b<;>rfl
theorem Inn.eta (s:Inn):Inn.mk s.side s.target s.overs s.runs s.wickets s.wides s.noballs s.byes s.legbyes s.pens s.complete s.inover s.striker s.other s.batters s.bowler s.bowlers s.before s.fresh s.bowled s.freehit s.ballage s.keeper s.outside s.subs s.rev1 s.rev2 s.ending=s:=rfl
theorem Rul.eta (r:Rul):Rul.mk r.name r.side r.innings r.overs r.balls r.quota r.wide r.noball r.freehit r.newball r.followon r.reviews r.outside r.power=r:=rfl
theorem ABy {p:Int} {n:Nat} {X Y:Option (List PV)} (hn:n≤1048576):cond (inR p n) (cond (iIn (IntKind.i64.wrap (p - 1)) (n:Int)) X none) Y=cond (inR p n) X Y:=by
 cases h:inR p n with
 | false=>rfl
 | true=>rw [Dt h hn];rfl
def ix (p:Int):Nat:=(IntKind.i64.wrap (p - 1)).toNat
def LE (L:Rows) (p v:Int):Rows:=L.set (ix p) (BB (AE L (ix p)) 0 [.int v])
def AEP (L:Rows) (p:Int) (v:Bool):Rows:=L.set (ix p) (BB (AE L (ix p)) 0 [.bool v])
theorem Nx (L:Rows) (p v:Int):(LE L p v).length=L.length:=by simp [LE]
theorem ADV (L:Rows) (p:Int) (v:Bool):(AEP L p v).length=L.length:=by simp [AEP]
theorem Br {L:Rows} {b:Nat} (h:L.length≤1048576) (hb:b≤4096):S0 b [.rows L]=some [.rows L]:=by
 have h1:=DL (n:=L.length) (b:=b) (by omega) hb;have:jN L.length b=true:=by
  simp only [iSm,decide_eq_true_eq] at h1;simp only [jN,decide_eq_true_eq];have h2:=h1.2.2.1;rw [← Int.natCast_mul] at h2;omega
 simp only [S0,this]
def B2 (L:Rows):Bool:=A3 (fun i => !(atI L i 0==0)) L.length 0
def Df (L:Rows) (s n:Int):Bool:=B2 L&&(s==0||n==0)
def CA (L:Rows):Nat→Rows
 | 0=>[]
 | i+1=>cond (atI L i 0==0||atI L i 0==3) (CA L i++[[.int ((i:Int)+1)]]) (CA L i)
theorem WI (L:Rows):∀ i,(CA L i).length≤i
 | 0=>Nat.le_refl _
 | i+1=>by
  have:=WI L i;unfold CA;cases (atI L i 0==0||atI L i 0==3)
  ·exact Nat.le_succ_of_le this
  ·simp;exact this
theorem rZ {v:Int} (h:(v==1)=true):(v==2)=false:=by
 have:=beq_iff_eq.1 h;rw [beq_eq_false_iff_ne];omega
theorem PXm : (∀ (b : Bool) (x y : List PV), cond b (some x) (some y) = some (cond b x y)) ∧ (∀ {α : Type} (b : Bool) (x : α), cond b x x = x) ∧ (∀ b x : Bool, cond b b x = (b || x)) ∧ (((0 : Nat) : Int) = 0) ∧ (((1 : Nat) : Int) = 1) ∧ (((2 : Nat) : Int) = 2) ∧ (((3 : Nat) : Int) = 3) ∧
    (∀ (b:Bool) (x y:Int),cond b [PV.int x] [PV.int y]=[PV.int (cond b x y)])∧(∀ (b x y:Bool),cond b [PV.bool x] [PV.bool y]=[PV.bool (cond b x y)])∧(∀ {α:Type} (l:List α) (i:Nat) (a:α),(l.set i a).length=l.length) ∧
    (∀ (b:Bool) (x y z:Int),(cond b x y==z)=cond b (x==z) (y==z))∧(∀ x:Int,(x==x)=true)∧(∀ x:Bool,(x==x)=true) ∧
    (∀ s:Inn,s.ls=[.int s.side,.int s.target,.int s.overs,.int s.runs,.int s.wickets,.int s.wides,.int s.noballs,.int s.byes,.int s.legbyes,.int s.pens,.int s.complete,.int s.inover,.int s.striker,.int s.other,.rows s.batters,.int s.bowler,.rows s.bowlers,.rows s.before,.bool s.fresh,.rows s.bowled,.bool s.freehit,.int s.ballage,.int s.keeper,.int s.outside,.rows s.subs,.int s.rev1,.int s.rev2,.int s.ending]) ∧
    (∀ x:Inn×Int,Ag x=[.int x.1.side,.int x.1.target,.int x.1.overs,.int x.1.runs,.int x.1.wickets,.int x.1.wides,.int x.1.noballs,.int x.1.byes,.int x.1.legbyes,.int x.1.pens,.int x.1.complete,.int x.1.inover,.int x.1.striker,.int x.1.other,.rows x.1.batters,.int x.1.bowler,.rows x.1.bowlers,.rows x.1.before,.bool x.1.fresh,.rows x.1.bowled,.bool x.1.freehit,.int x.1.ballage,.int x.1.keeper,.int x.1.outside,.rows x.1.subs,.int x.1.rev1,.int x.1.rev2,.int x.1.ending,.int x.2]) ∧
    (∀ s:Inn,Inn.mk s.side s.target s.overs s.runs s.wickets s.wides s.noballs s.byes s.legbyes s.pens s.complete s.inover s.striker s.other s.batters s.bowler s.bowlers s.before s.fresh s.bowled s.freehit s.ballage s.keeper s.outside s.subs s.rev1 s.rev2 s.ending=s) ∧
    (∀ r:Rul,Rul.mk r.name r.side r.innings r.overs r.balls r.quota r.wide r.noball r.freehit r.newball r.followon r.reviews r.outside r.power=r) :=
  ⟨AFf,AFo,AFI,Cv,Vk,AF7,AFx,AGE,AF4,fun _ _ _=>List.length_set,AEK,fun _=>beq_self_eq_true _,fun _=>beq_self_eq_true _,fun _=>rfl,fun _=>rfl,Inn.eta,Rul.eta⟩
end Go.Px
end
