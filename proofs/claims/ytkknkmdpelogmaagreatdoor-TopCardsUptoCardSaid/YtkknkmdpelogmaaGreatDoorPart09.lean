/- Part 9. -/
import Derived.Test.YtkknkmdpelogmaaGreatDoorPart08
import Derived.Lib.Bytealg
import Derived.Lib.Strings
import Derived.Lib.Join
import Derived.Lib.ItoaNum
import Derived.Below
import Derived.Sort.Grow
import Derived.Deep.Draws
set_option linter.unusedVariables false
set_option linter.unusedSimpArgs false
section
namespace Go.Px
def XV:List Nat→List PV→Bool
 | [],[]=>true
 |k::ks,p::ps=>(match p with | .int _=>Nat.beq k 0 | .bool _=>Nat.beq k 1 | .str _=>Nat.beq k 2 | .rows _=>Nat.beq k 3)&&XV ks ps
 |_,_=>false
structure Ags(O:Alg) where
 I:Nat→O.I
 B:Nat→O.B
 S:Nat→O.S
 L:Nat→O.L
def xr{O:Alg}(x:Ags O):List Nat→Nat→List O.Lf
 | [],_=>[]
 |k::ks,j=>(match k with|0=>.int (x.I j)|1=>.bool (x.B j)|2=>.str (x.S j)|_=>.rows (x.L j))::xr x ks (j+1)
def cr(O:Alg)(c:O.C):List Nat→Nat→List O.Lf
 | [],_=>[]
 |k::ks,j=>(match k with|0=>.int (O.d c j)|1=>.bool (O.r c j)|2=>.str (O.cS c j)|_=>.rows (O.j c j))::cr O c ks (j+1)
def rr(O:Alg)(l:O.L)(i:O.I):List Nat→Nat→List O.Lf
 | [],_=>[]
 |k::ks,j=>(match k with|0=>.int (O.m l i j)|1=>.bool (O.rB l i j)|2=>.str (O.rS l i j)|_=>.rows (O.rL l i j))::rr O l i ks (j+1)
def kI:List Nat:=[0,0,0,0,0,0,0,0,0,0,0,0,0,0,3,0,3,3,1,3,1,0,0,0,3,0,0,0]
def kR:List Nat:=[2,0,0,0,0,0,0,0,1,0,0,0,0,3]
def kM:List Nat:=[2,0,0,0,0,0,0,0,1,0,0,0,0,3,0,0,1,3,0,0,0,0,0]
def ap(O:Alg)(a b:List O.Lf):List O.Lf:=a++b
def xOf{E:Env}{N:Nat}(ls:List PV):Ags (std E N):={ I:=fun j=>pvI (AA ls j),B:=fun j=>pvB (AA ls j),S:=fun j=>pvS (AA ls j),L:=fun j=>pvL (AA ls j) }
theorem tC{E:Env}{N:Nat}:∀{ks:List Nat} {ps pre:List PV},XV ks ps=true→ps.map PV.leaf=xr (xOf (E:=E) (N:=N) (pre++ps)) ks pre.length
 | [],[],pre,_=>rfl
 |k::ks,p::ps,pre,h=>by
  simp only[XV,zzk]at h;have ih:=tC (E:=E) (N:=N) (ks:=ks) (ps:=ps) (pre:=pre++[p]) h.2;simp only[List.map_cons,xr];have hc:AA (pre++p::ps) pre.length=p:=by
   unfold AA;rw[zzl,List.getElem?_append_right (Nat.le_refl _)];simp
  rw[List.append_assoc,List.length_append]at ih;have ih:ps.map PV.leaf=xr (xOf (E:=E) (N:=N) (pre++p::ps)) ks (pre.length+1):=ih;rw[ih];congr 1;have h1:=h.1;cases p with
  |int n=>have:=AE.1 h1;subst this;simp[xOf,hc,PV.leaf]
  |bool n=>have:=AE.1 h1;subst this;simp[xOf,hc,PV.leaf]
  |str n=>have:=AE.1 h1;subst this;simp[xOf,hc,PV.leaf]
  |rows n=>have:=AE.1 h1;subst this;simp[xOf,hc,PV.leaf]
 | [],_::_,_,h=>by simp[XV]at h
 |_::_,[],_,h=>by simp[XV]at h
theorem wC{E:Env}{N:Nat}{ks:List Nat}{ls:List PV}(h:XV ks ls=true):ls.map PV.leaf=xr (xOf (E:=E) (N:=N) ls) ks 0:=tC (pre:=[]) h
def UX(ks:List Nat)(ls:List PV)(F:Option (List PV)):Option (List PV):=match XV ks ls with
 |true=>F
 |false=>none
theorem vm{ks:List Nat}{ls rs:List PV}{F:Option (List PV)}(h:UX ks ls F=some rs):XV ks ls=true∧F=some rs:=by
 unfold UX at h
 split at h
 ·rename_i hs;exact⟨hs,h⟩
 cases h
abbrev VV(P:Program)(E:Env)(N:Nat)(ci:CI):Prop:=Ko P E N ci∧Ko P E N { ci with own:=false }
theorem CD{P:Program}{E:Env}{N:Nat}:∀ci∈([]:List CI),VV P E N ci:=fun ci h=>by simp at h
theorem AP{P:Program}{E:Env}{N:Nat}{c:CI}{l:List CI}(h:VV P E N c)(k:∀ci∈l,VV P E N ci):∀ci∈c::l,VV P E N ci:=fun ci hm=>by
 rcases List.mem_cons.1 hm with rfl|hm
 ·exact h
 exact k ci hm
theorem BS{P:Program}(hmix:P.follows .mixedOrders=true){E:Env}{N:Nat}{cfg:Cfg}(hΓ:∀ci∈cfg.gam,VV P E N ci){ci:CI}{ks:List Nat}{c F:List PV→Option (List PV)}(hc:∀ls,c ls=UX ks ls (F ls))
    (hx:∀ls,XF (O:=std E N) P cfg ci.ow ci.nw ci.gives ci.f ci.fns (xr (xOf ls) ks 0)=F ls) {E':Env} {N':Nat} (h:∀ls,E' ci.f ci.fns ls=c ls):VV P E' N' ci:=
  ACN hmix ⟨hΓ⟩ (fun ls rs he=>by
    rw[h,hc]at he;obtain⟨h1,h2⟩:=vm he;rw[wC h1,hx];exact h2)
def fO(n b:Nat):Bool:=decide (n≤17592186044416∧n*b≤17592186044416)
def SE(b:Nat)(ls:List PV):Option (List PV):=match ls with
 | [.rows l]=>match fO l.length b with
  |true=>some [.rows l]
  |false=>none
 |_=>none
def Ui(T:TypeId)(fn:Func):Code:=match fn.body with
 |some c=>match Mo T c with
  |some (nb,_)=>nb
  |none=>.skip
 |none=>.skip
def Wk(T:TypeId)(fn:Func):Code:=match fn.body with
 |some c=>match Mo T c with
  |some (_,t)=>t
  |none=>.skip
 |none=>.skip
def oB(fn:Func):Lv:={ nrm:=RL fn.results.toList,ret:=RL fn.results.toList,exts:=[] }
def xD(P:Program)(T:TypeId)(fn:Func):Bool:=match fn.body with
 |some c=>(Mo T c).isSome&&DY fn.ntmps (Ui T fn)&&DY fn.ntmps (Wk T fn)&&(an P (Ui T fn)).nrm.isNone&&Nat.ble 5 fn.ntmps&&AK fn.params.toList [T]
 |none=>false
theorem Rp{P:Program}(hmix:P.follows .mixedOrders=true){f:FuncId}{T e:TypeId}{b:Nat}{fn:Func}(hfn:P.funcs[f]?=some fn)(hT:P.underlying T=some (.slice e))(hok:xD P T fn=true)(hb:b≤1048576)
    (h1:∀(O:Alg) (l:O.L),XL (O:=O) P { gam:=[] } 6 (Ui T fn) true (oB fn) (Im e l) (my P (fun _=>true) true fn)=O.a [.rows O.u])
    (h2:∀(O:Alg) (l:O.L),XL (O:=O) P { gam:=[] } 6 (Wk T fn) true (oB fn) (Im e l) (my P (fun _=>true) true fn)=O.i (O.s (O.l (O.ac (O.z []) l)) b) (O.a [.rows (O.ac (O.z []) l)]))
    {E':Env} {N':Nat} (h:∀ls,E' f [] ls=SE b ls) (hq:(Nat.blt e ptB && !Eh P e)=true:=by rfl):VV P E' N' ⟨f,[],true,true,[],[]⟩:=by
  unfold xD at hok
  split at hok
  case h_2=>cases hok
  rename_i c hbody;simp only[zzk]at hok;obtain⟨⟨⟨⟨⟨k1,k2⟩,k3⟩,k4⟩,k5⟩,k6⟩:=hok;have k5:=Nat.le_of_ble_eq_true k5;have k6:=J9.1 k6;obtain⟨⟨nb,tail⟩,hpc⟩:=Option.isSome_iff_exists.1 k1;have hnb:Ui T fn=nb:=by simp[Ui,hbody,hpc]
  have htl:Wk T fn=tail:=by simp[Wk,hbody,hpc]
  rw [hnb] at k2 k4;rw [htl] at k3;have main:∀ own',(own'=true→true=true)→∀ (ls rs:List PV),E' f [] ls=some rs→∀ fn',P.funcs[f]?=some fn'→∀ (vs:List (AV (std E' N'))) (hs:List (Nat×HEnt (std E' N'))),Ba (O:=std E' N') P [] 1 fn'.params.toList [] (ls.map PV.leaf)=some (vs,hs) →
      ∀(n0:Nz) (σ:Nat→Option (Nat×Nat)) (w:World) (args:List Value),n0.n=w.heap.size→Mem P n0 noB σ (Aa hs) w→RelArgs P n0 noB σ (Aa hs) w vs args→Kept P n0 noB σ (Aa hs) w→Calls P f args.toArray w (Ret (E:=E') (N:=N') P ⟨f,[],own',true,[],[]⟩ n0 σ (Aa hs) w fn' rs):=
    fun own' ho ls rs he fn' hfn' vs hs hv n0 σ w args hn0 m hr hkp=>by
      rw[hfn]at hfn';cases hfn';rw[h]at he;unfold SE at he
      split at he
      case h_2=>cases he
      rename_i l
      split at he
      case h_2=>cases he
      rename_i hsm;cases he;unfold fO at hsm;have hsm:=of_decide_eq_true hsm;refine wS (cfg:={ gam:=[] }) hmix ⟨fun ci hm=>by simp at hm⟩ (fun _ _=>rfl) hfn k6 hT hq hbody hpc k2 k3 k4 k5 (lv:=oB fn) (fun hl=>?_) ?_ hv hn0 m hkp hr
      · rw[←hnb,h1,hl];rfl
      rw[←htl,h2];have:(decide ((0:Int)≤((([]++l:Rows).length:Nat):Int)∧((([]++l:Rows).length:Nat):Int)≤17592186044416∧((([]++l:Rows).length:Nat):Int)*(b:Int)≤17592186044416∧b≤1048576))=true:=by
        simp only[List.nil_append,decide_eq_true_eq];refine⟨by omega,by omega,?_,hb⟩;have:=hsm.2;rw[←Int.natCast_mul];omega
      show cond (decide ((0:Int)≤((([]++l:Rows).length:Nat):Int)∧((([]++l:Rows).length:Nat):Int)≤17592186044416∧((([]++l:Rows).length:Nat):Int)*(b:Int)≤17592186044416∧b≤1048576)) (some [PV.rows ([]++l)]) none=_;rw[this];rfl
  exact⟨Kx (ci:=⟨f,[],true,true,[],[]⟩) (main true (fun _=>rfl)),Kx (ci:=⟨f,[],false,true,[],[]⟩) (main false (fun _=>rfl))⟩
open Go.RowKit
def uz(ls:List PV):Option (List PV):=match ls with
 | [.str s,.int c]=>some [.int (Lib.indexByte s.data.toList c.toNat.toUInt8)]
 |_=>none
theorem v8{P:Program}{f:FuncId}{T5 T9 T3:TypeId}{fn:Func}(hfn:P.funcs[f]?=some fn)(hp:fn.params=#[T9,T5])(hr:fn.resultTypes=#[T3])(h9:P.underlying T9=some .string)(h5:P.underlying T5=some (.int .u8))(h3:P.underlying T3=some (.int .i64))(h3t:AY P T3=some [T3])
    (hc:∀(s:ByteArray) (c:Int) (w:World),Calls P f #[.string s,.int .u8 c] w fun e w'=>e=.returned (.int .i64 (Lib.indexByte s.data.toList c.toNat.toUInt8))∧w'=w)
    {E':Env} {N':Nat} (h:∀ls,E' f [] ls=uz ls):VV P E' N' ⟨f,[],true,true,[],[]⟩:=by
  have l9:AL P T9=.str:=by simp[AL,h9]
  have l5:AL P T5=.int .u8:=by simp[AL,h5]
  have l3:AL P T3=.int .i64:=by simp[AL,h3]
  have a3:Ag P T3=false:=by simp[Ag,h3]
  have a5:Ag P T5=false:=by simp[Ag,h5]
  have a9:Ag P T9=false:=by simp[Ag,h9]
  have ty:∀{T:TypeId} {x:List TypeId} {d:TypeDesc},P.underlying T=some d→(∀k,B5 P (k+1) T=some [T])→AY P T=some x→x=[T]:=fun{T x d} _ hk hx=>by
    unfold AY at hx;rw[show Dx=19+1 from rfl,hk]at hx;simp only at hx
    split at hx
    · cases hx;rfl
    cases hx
  have main:∀own',∀(ls rs:List PV),E' f [] ls=some rs→∀fn',P.funcs[f]?=some fn'→∀(vs:List (AV (std E' N'))) (hs:List (Nat×HEnt (std E' N'))),Ba (O:=std E' N') P [] 1 fn'.params.toList [] (ls.map PV.leaf)=some (vs,hs) →
      ∀(n0:Nz) (σ:Nat→Option (Nat×Nat)) (w:World) (args:List Value),n0.n=w.heap.size→Mem P n0 noB σ (Aa hs) w→RelArgs P n0 noB σ (Aa hs) w vs args→Kept P n0 noB σ (Aa hs) w→Calls P f args.toArray w (Ret (E:=E') (N:=N') P ⟨f,[],own',true,[],[]⟩ n0 σ (Aa hs) w fn' rs):=
    fun own' ls rs he fn' hfn' vs hs hv n0 σ w args hn0 m hra hkp=>by
      rw[hfn]at hfn';cases hfn';rw[h]at he;unfold uz at he
      split at he
      case h_2=>cases he
      rename_i s c;cases he;rw[hp]at hv;have hT9:AY P T9=none∨AY P T9=some [T9]:=by
        cases hx:AY P T9 with
        |none=>exact .inl rfl
        |some x=>exact .inr (by rw[ty h9 (fun k=>by simp[B5,h9]) hx])
      have hT5:AY P T5=none∨AY P T5=some [T5]:=by
        cases hx:AY P T5 with
        |none=>exact .inl rfl
        |some x=>exact .inr (by rw[ty h5 (fun k=>by simp[B5,h5]) hx])
      unfold Ba at hv;simp only[l9]at hv
      rcases hT9 with hT9|hT9
      · simp[hT9]at hv
      simp only[hT9,List.map_cons,List.map_nil,PV.leaf,A2,l9,Option.map_some]at hv;unfold Ba at hv;simp only[l5]at hv
      rcases hT5 with hT5|hT5
      · simp[hT5]at hv
      simp[hT5,A2,l5,Ba,a9,a5]at hv;obtain⟨rfl,rfl⟩:=hv;obtain⟨v1,v2,rfl⟩:∃v1 v2,args=[v1,v2]:=by
        have:=hra.len
        match args,this with
        | [v1,v2],_=>exact⟨v1,v2,rfl⟩
      obtain⟨q1,q2,_⟩:=hra;have q1:RelVal P n0 noB σ (Aa []) w (⟨false,[.str s]⟩:Val (std E' N')) v1:=q1;have q2:RelVal P n0 noB σ (Aa []) w (⟨false,[.int .u8 c]⟩:Val (std E' N')) v2:=q2;obtain⟨g1,g2⟩:=q1;have g2:v1.oneCell'=true:=g2;rw[Bi g2]at g1;have e1:v1=.string s:=g1.1;obtain⟨k1,k2⟩:=q2;have k2:v2.oneCell'=true:=k2;rw[Bi k2]at k1;have e2:v2=.int .u8 c:=k1.1;subst e1;subst e2;refine Calls.mono (hc s c w) (fun e w' hp2=>?_);obtain⟨rfl,rfl⟩:=hp2;refine⟨rfl,rfl,rfl,Nat.le_refl _,fun _ _ _=>rfl,fun q=>⟨fun _=>none,[⟨false,[.int .i64 _]⟩],[],?_,⟨fun _ _ h=>(by cases h),fun _ _ h=>(by cases h),fun _ _ _ _ _ h=>(by cases h),fun _ _ _ _ _ _ _ h=>(by cases h),fun _ _ _ _ _ _ h=>(by cases h)⟩,⟨⟨rfl,trivial⟩,rfl⟩,fun b hb=>?_⟩⟩
      · rw[hr];simp[Bw,h3t,A3,l3,a3];rfl
      rcases hb with⟨_,_,hx,_⟩|⟨_,_,_,hx,_⟩
      · cases hx
      cases hx
  exact⟨Kx (ci:=⟨f,[],true,true,[],[]⟩) (main true),Kx (ci:=⟨f,[],false,true,[],[]⟩) (main false)⟩
end Go.Px
end
section
namespace Go.Px
def cI(n:Nat):CI:=⟨n,[],true,true,[],[]⟩
def Vd(P:Program)(n:Nat)(c:Nat→List PV→Option (List PV)):Prop:=∀{E:Env} {M:Nat} (N:Nat),(∀ls,E n [] ls=c N ls)→VV P E M (cI n)
def eL(l:List (Nat×(Nat→List PV→Option (List PV))))(N:Nat):Env:=fun f fns ls=>match l with
 | []=>none
 |p::r=>cond (Nat.beq f p.1&&AK fns []) (p.2 N ls) (eL r N f fns ls)
def oS(ks:List Nat)(t:∀O:Alg,Ags O→O.M)(env:Nat→Env)(N:Nat)(ls:List PV):Option (List PV):=UX ks ls (t (std (env N) N) (xOf ls))
inductive Gs(P:Program):List (Nat×(Nat→List PV→Option (List PV)))→Prop
 |nil:Gs P []
 |cons {n:Nat} {c:Nat→List PV→Option (List PV)} {l:List (Nat×(Nat→List PV→Option (List PV)))} (h:Vd P n c) (t:Gs P l):Gs P ((n,c)::l)
theorem g0{P:Program}:Gs P []:=.nil
theorem gs{P:Program}{n:Nat}{c:Nat→List PV→Option (List PV)}{l:List (Nat×(Nat→List PV→Option (List PV)))}(h:Vd P n c)(t:Gs P l):Gs P ((n,c)::l):=.cons h t
def Nb:List Nat→Bool
 | []=>true
 |n::l=>l.all (fun m => !Nat.beq m n)&&Nb l
theorem AAh{l:List (Nat×(Nat→List PV→Option (List PV)))}{N:Nat}:∀{pre:List (Nat×(Nat→List PV→Option (List PV)))} {n:Nat} {c:Nat→List PV→Option (List PV)} {ls:List PV},pre.all (fun p => !Nat.beq n p.1)=true→eL (pre++(n,c)::l) N n [] ls=c N ls
 | [],n,c,ls,_=>by
  show cond (Nat.beq n n&&true) (c N ls) _=_;rw[Nat.beq_refl];rfl
 |p::pre,n,c,ls,h=>by
  rw[List.all_cons,zzk]at h;have h1:Nat.beq n p.1=false:=by
   have:=h.1;simpa using this
  show cond (Nat.beq n p.1&&true) _ (eL (pre++(n,c)::l) N n [] ls)=_;rw[h1];exact AAh h.2
theorem AAX{P:Program}{N:Nat}:∀{l:List (Nat×(Nat→List PV→Option (List PV)))} {pre:List (Nat×(Nat→List PV→Option (List PV)))},Gs P l→(∀p∈l,pre.all (fun q => !Nat.beq p.1 q.1)=true)→Nb (l.map (·.1))=true→∀ci∈l.map (fun p=>cI p.1),VV P (eL (pre++l) N) N ci
 | [],_,_,_,_,ci,h=>by cases h
 |(n,c)::l,pre,.cons hv ht,hp,ha,ci,h=>by
  rw[List.map_cons,List.mem_cons]at h
  rcases h with h|h
  ·subst h;exact hv N (fun ls=>AAh (hp (n,c) (zzm ..)))
  simp only[List.map_cons,Nb,zzk]at ha;have:=AAX (N:=N) (pre:=pre++[(n,c)]) ht (fun p hm=>by
   rw[List.all_append,hp p (zzn _ hm),Bool.true_and];have h1:=List.all_eq_true.1 ha.1 p.1 (List.mem_map.2 ⟨p,hm,rfl⟩);simpa using h1) ha.2 ci h
  rw[List.append_assoc]at this;exact this
theorem vti{P:Program}(hmix:P.follows .mixedOrders=true)(imm old:Bool)(ie:List Nat){n:Nat}{c:Nat→List PV→Option (List PV)}(ks:List Nat)(t:∀O:Alg,Ags O→O.M)(l:List (Nat×(Nat→List PV→Option (List PV))))(hg:Gs P l)(ha:Nb (l.map (·.1))=true)
    (hc:∀N ls,c N ls=UX ks ls (t (std (eL l N) N) (xOf ls)))
    (hx:∀(O:Alg) (x:Ags O),XF (O:=O) P { gam:=l.map (fun p=>cI p.1),imm:=imm,old:=old,ie:=ie } (cI n).ow true [] n [] (xr x ks 0)=t O x):Vd P n c:=fun N h=>
  BS hmix (E:=eL l N) (N:=N) (cfg:={ gam:=l.map (fun p=>cI p.1),imm:=imm,old:=old,ie:=ie }) (ci:=cI n) (AAX (pre:=[]) hg (fun _ _=>rfl) ha) (hc N) (fun ls=>hx _ _) h
theorem vt{P:Program}(hmix:P.follows .mixedOrders=true){n:Nat}{c:Nat→List PV→Option (List PV)}(ks:List Nat)(t:∀O:Alg,Ags O→O.M)(l:List (Nat×(Nat→List PV→Option (List PV))))(hg:Gs P l)(ha:Nb (l.map (·.1))=true)
    (hc:∀N ls,c N ls=UX ks ls (t (std (eL l N) N) (xOf ls)))
    (hx:∀(O:Alg) (x:Ags O),XF (O:=O) P { gam:=l.map (fun p=>cI p.1) } (cI n).ow true [] n [] (xr x ks 0)=t O x):Vd P n c:=vti hmix false false [] ks t l hg ha hc hx
theorem vE{P:Program}{n:Nat}{c:Nat→List PV→Option (List PV)}(v:Vd P n c){E:Env}{M:Nat}(N:Nat)(h:∀ls,E n [] ls=c N ls):VV P E M (cI n):=v N h
open Go.RowKit
def ABn(i:Nat):List UInt8:=cond (Nat.blt i 10) [UInt8.ofNat (48+i)] [UInt8.ofNat (48+i / 10),UInt8.ofNat (48+i%10)]
theorem ADi{i:Nat}(h:i<100):ABn i=Lib.decDigits i:=by
 unfold ABn;cases hb:Nat.blt i 10
 ·have:¬i<10:=fun hx=>by
   rw[←Nat.blt_eq,hb]at hx;cases hx
  rw[Lib.decDigits,dif_neg this,Lib.decDigits,dif_pos (show i / 10<10 by omega)];rfl
 have:i<10:=of_eq_true (Nat.blt_eq▸eq_true hb);rw[Lib.decDigits,dif_pos this];rfl
theorem AFI{P:Program}{T:TypeId}{x:List TypeId}(hk:∀k,B5 P (k+1) T=some [T])(hx:AY P T=some x):x=[T]:=by
 unfold AY at hx;rw[show Dx=19+1 from rfl,hk]at hx;simp only at hx
 split at hx
 ·cases hx;rfl
 cases hx
theorem ACu{P:Program}{T:TypeId}(hk:∀k,B5 P (k+1) T=some [T]):AY P T=none∨AY P T=some [T]:=by
 cases hx:AY P T with
 |none=>exact .inl rfl
 |some x=>exact .inr (by rw[AFI hk hx])
end Go.Px
end
section
namespace Go.Px
open Go.RowKit Go.Sort
def sE(i:Int):Option (List PV):=cond (decide (-9223372036854775808≤i)&&decide (i≤9223372036854775807)) (cond (decide (0≤i)&&decide (i<100)) (some [.str ⟨(ABn i.toNat).toArray⟩]) (some [.str ⟨(Lib.itoa i).toArray⟩])) none
def ACa(ls:List PV):Option (List PV):=match ls with
 | [.int i,.int b]=>cond (b==10) (sE i) none
 |_=>none
theorem ACF(n:Nat):Lib.itoa (n:Int)=Lib.decDigits n:=by
 unfold Lib.itoa;rw[if_neg (by omega),Int.toNat_natCast]
theorem AB1{i:Int}(h0 : -9223372036854775808≤i)(h:i≤9223372036854775807):sE i=some [.str ⟨(Lib.itoa i).toArray⟩]:=by
 unfold sE;rw[decide_eq_true h0,decide_eq_true h];show cond (decide (0≤i)&&decide (i<100)) _ _=_
 by_cases hz:0≤i
 ·by_cases hs:i<100
  ·rw[decide_eq_true hz,decide_eq_true hs];obtain⟨n,rfl⟩:∃n:Nat,i=n:=⟨i.toNat,by omega⟩;rw[ACF,Int.toNat_natCast,ADi (by omega)];rfl
  rw[decide_eq_true hz,decide_eq_false hs];rfl
 rw[decide_eq_false hz];rfl
theorem z6{i:Int}{rs:List PV}(h:sE i=some rs) : -9223372036854775808≤i∧i≤9223372036854775807∧rs=[.str ⟨(Lib.itoa i).toArray⟩]:=by
 cases hb:(decide (-9223372036854775808≤i)&&decide (i≤9223372036854775807))
 ·unfold sE at h;rw[hb]at h;cases h
 rw[zzk,decide_eq_true_eq,decide_eq_true_eq]at hb;rw[AB1 hb.1 hb.2]at h;exact⟨hb.1,hb.2,(Option.some.inj h).symm⟩
theorem yZ{P:Program}{f:FuncId}{T2 T3 T9:TypeId}{fn:Func}(hfn:P.funcs[f]?=some fn)(hp:fn.params=#[T2,T3])(hr:fn.resultTypes=#[T9])(h2:P.underlying T2=some (.int .i64))(h3:P.underlying T3=some (.int .i64))(h9:P.underlying T9=some .string)(h9t:AY P T9=some [T9])
    (hg:(P.globalNamed Q8).isSome=true) (hc:∀(i:Int),-9223372036854775808≤i→i≤9223372036854775807→∀w:World,Lib.TabIs P w Q8 .u64 fZ→Calls P f #[.int .i64 i,.int .i64 10] w fun e w'=>e=.returned (.string ⟨(Lib.itoa i).toArray⟩)∧∃k os,w'=grow (w.drewN k) os)
    {E':Env} {N':Nat} (h:∀ls,E' f [] ls=ACa ls):VV P E' N' ⟨f,[],true,true,[],[]⟩:=by
  have l2:AL P T2=.int .i64:=by simp[AL,h2]
  have l3:AL P T3=.int .i64:=by simp[AL,h3]
  have l9:AL P T9=.str:=by simp[AL,h9]
  have a2:Ag P T2=false:=by simp[Ag,h2]
  have a3:Ag P T3=false:=by simp[Ag,h3]
  have a9:Ag P T9=false:=by simp[Ag,h9]
  have main:∀own',∀(ls rs:List PV),E' f [] ls=some rs→∀fn',P.funcs[f]?=some fn'→∀(vs:List (AV (std E' N'))) (hs:List (Nat×HEnt (std E' N'))),Ba (O:=std E' N') P [] 1 fn'.params.toList [] (ls.map PV.leaf)=some (vs,hs) →
      ∀(n0:Nz) (σ:Nat→Option (Nat×Nat)) (w:World) (args:List Value),n0.n=w.heap.size→Mem P n0 noB σ (Aa hs) w→RelArgs P n0 noB σ (Aa hs) w vs args→Kept P n0 noB σ (Aa hs) w→Calls P f args.toArray w (Ret (E:=E') (N:=N') P ⟨f,[],own',true,[],[]⟩ n0 σ (Aa hs) w fn' rs):=
    fun own' ls rs he fn' hfn' vs hs hv n0 σ w args hn0 m hra hkp=>by
      rw[hfn]at hfn';cases hfn';rw[h]at he;unfold ACa at he
      split at he
      case h_2=>cases he
      rename_i n b;cases hb10:b==10 with
      |false=>rw[hb10]at he;cases he
      |true=>
      rw[hb10]at he;have hb:=beq_iff_eq.1 hb10;subst hb;obtain⟨hn0,hn,rfl⟩:=z6 he;rw[hp]at hv;unfold Ba at hv;simp only[l2]at hv
      rcases ACu (P:=P) (T:=T2) (fun k=>by simp[B5,h2])with hT|hT
      · simp[hT]at hv
      simp only[hT,List.map_cons,List.map_nil,PV.leaf,A2,l2,Option.map_some]at hv;unfold Ba at hv;simp only[l3]at hv
      rcases ACu (P:=P) (T:=T3) (fun k=>by simp[B5,h3])with hT3|hT3
      · simp[hT3]at hv
      simp[hT3,A2,l3,Ba,a2,a3]at hv;obtain⟨rfl,rfl⟩:=hv;obtain⟨v1,v2,rfl⟩:∃v1 v2,args=[v1,v2]:=by
        have:=hra.len
        match args,this with
        | [v1,v2],_=>exact⟨v1,v2,rfl⟩
      obtain⟨q1,q2,_⟩:=hra;have q1:RelVal P n0 noB σ (Aa []) w (⟨false,[.int .i64 n]⟩:Val (std E' N')) v1:=q1;have q2:RelVal P n0 noB σ (Aa []) w (⟨false,[.int .i64 (10:Int)]⟩:Val (std E' N')) v2:=q2;obtain⟨g1,g2⟩:=q1;have g2:v1.oneCell'=true:=g2;rw[Bi g2]at g1;have e1:v1=.int .i64 n:=g1.1;obtain⟨k1,k2⟩:=q2;have k2:v2.oneCell'=true:=k2;rw[Bi k2]at k1;have e2:v2=.int .i64 10:=k1.1;subst e1;subst e2;obtain⟨g0,hg0⟩:=Option.isSome_iff_exists.1 hg;refine Calls.mono (hc n hn0 hn w (hkp g0 hg0).1) (fun e w' hp2=>?_);obtain⟨rfl,kk,os,rfl⟩:=hp2;refine⟨rfl,rfl,rfl,by simp[grow,World.drewN],fun b hb _=>by simp[grow,World.drewN,Array.getElem?_append_left hb],fun q=>⟨fun _=>none,[⟨false,[.str _]⟩],[],?_,⟨fun _ _ h=>(by cases h),fun _ _ h=>(by cases h),fun _ _ _ _ _ h=>(by cases h),fun _ _ _ _ _ _ _ h=>(by cases h),fun _ _ _ _ _ _ h=>(by cases h)⟩,⟨⟨rfl,trivial⟩,rfl⟩,fun b hb=>?_⟩⟩
      · rw[hr];simp[Bw,h9t,A3,l9,a9];rfl
      rcases hb with⟨_,_,hx,_⟩|⟨_,_,_,hx,_⟩
      · cases hx
      cases hx
  exact⟨Kx (ci:=⟨f,[],true,true,[],[]⟩) (main true),Kx (ci:=⟨f,[],false,true,[],[]⟩) (main false)⟩
end Go.Px
end
section
namespace Go.Px
def rB(xs:List Bool):Rows:=xs.map fun n=>[PV.bool n]
theorem A0{n:Int}(h1 : -9223372036854775808≤n)(h2:n≤9223372036854775807):IntKind.i64.wrap n=n:=by
 unfold IntKind.wrap;simp[IntKind.signed,IntKind.bits];omega
theorem AH(b:Bool)(x y:List PV)(k:List PV→Option (List PV)):(cond b (some x) (some y):Option (List PV)).bind k=k (cond b x y):=by grind
theorem AFu(b:Bool)(x y:List PV)(j:Nat):pvB (AA (cond b x y) j)=cond b (pvB (AA x j)) (pvB (AA y j)):=by grind
theorem AFw(b:Bool)(x y:List PV)(j:Nat):pvI (AA (cond b x y) j)=cond b (pvI (AA x j)) (pvI (AA y j)):=by grind
theorem AFe(b:Bool)(x y:List PV)(j:Nat):pvS (AA (cond b x y) j)=cond b (pvS (AA x j)) (pvS (AA y j)):=by grind
theorem AFY(b:Bool)(x y:List PV)(j:Nat):pvL (AA (cond b x y) j)=cond b (pvL (AA x j)) (pvL (AA y j)):=by grind
theorem lK(b p:Bool):cond b p false=(b&&p):=by simp_all
theorem AF8(b p:Bool):cond b true p=(b||p):=by rfl
theorem AFK(b p:Bool):cond b false p=(!b&&p):=by simp_all
theorem AFb(b p:Bool):cond b p true=(!b||p):=by simp_all
theorem AEQ(b:Bool)(x y:List PV):cond b (some x) (some y)=some (cond b x y):=by grind
theorem AEr{α:Type}(b:Bool)(x:α):cond b x x=x:=by simp_all
theorem AEq(b p q:Bool):cond b [PV.bool p] [PV.bool q]=[PV.bool (cond b p q)]:=by grind
theorem AAW(p:PV)(r:List PV):AA (p::r) 0=p:=rfl
theorem AAB(p:PV)(r:List PV)(j:Nat):AA (p::r) (j+1)=AA r j:=by rfl
def lT{St:Type}(body:Nat→St→List PV ⊕ St)(fin:St→List PV):Nat→Nat→St→List PV
 |0,_,s=>fin s
 |k+1,i,s=>match body i s with
  | .inl r=>r
  | .inr s'=>lT body fin k (i+1) s'
theorem pd{St:Type}{F:(List AW→Option (List PV))→List PV→Option (List PV)}{len:Nat}{enc:Nat→St→List AW}{body:Nat→St→List PV ⊕ St}{fin:St→List PV}(I:Nat→St→Prop)
    (h0:∀s self,I len s→F self ((enc len s).map Leaf.pv)=some (fin s))
    (h1:∀i s self,i<len→I i s→F self ((enc i s).map Leaf.pv)=(match body i s with | .inl r=>some r | .inr s'=>self (enc (i+1) s'))∧∀s',body i s=.inr s'→I (i+1) s') :
    ∀(k i:Nat) (s:St) (n:Nat),i+k=len→k<n→I i s→CP F n ((enc i s).map Leaf.pv)=some (lT body fin k i s)
  |0,i,s,n,hk,hn,hi=>by
    obtain⟨n,rfl⟩:∃m,n=m+1:=⟨n-1,by omega⟩;obtain rfl:i=len:=by omega
    exact h0 s _ hi
  |k+1,i,s,n,hk,hn,hi=>by
    obtain⟨n,rfl⟩:∃m,n=m+1:=⟨n-1,by omega⟩;obtain⟨h2,h3⟩:=h1 i s (fun ls=>CP F n (ls.map Leaf.pv)) (by omega) hi;show F _ _=_;rw[h2];simp only[lT];cases hb:body i s with
    |inl r=>rfl
    |inr s'=>exact pd I h0 h1 k (i+1) s' n (by omega) (by omega) (h3 s' hb)
theorem AQ{F:(List AW→Option (List PV))→List PV→Option (List PV)}{n:Nat}{c r:List PV}{k:List PV→Option (List PV)}{g:Option (List PV)}(h:CP F n c=some r)(hk:k r=g):(CP F n c).bind k=g:=by
 simp_all
def Be(ans:Nat→Option (List PV)):Nat→Nat→Option (List PV)
 |0,_=>none
 |k+1,i=>match ans i with
  |some r=>some r
  |none=>Be ans k (i+1)
def Wq:Option (List PV)→List PV
 |some r=>.int 0::r
 |none=>[.int 1]
theorem DF{F:(List AW→Option (List PV))→List PV→Option (List PV)}{len:Nat}(ans:Nat→Option (List PV))
    (h0:∀self,F self [.int (len:Int)]=some [.int 1]) (h1:∀i self,i<len→F self [.int (i:Int)]=match ans i with|some r=>some (.int 0::r)|none=>self [.int ((i:Int)+1)]) :
    ∀(k i n:Nat),i+k=len→k<n→CP F n [.int (i:Int)]=some (Wq (Be ans k i))
  |0,i,n,hk,hn=>by
    obtain⟨n,rfl⟩:∃m,n=m+1:=⟨n-1,by omega⟩;obtain rfl:i=len:=by omega
    exact h0 _
  |k+1,i,n,hk,hn=>by
    obtain⟨n,rfl⟩:∃m,n=m+1:=⟨n-1,by omega⟩;have h2:=h1 i (fun ls=>CP F n (ls.map Leaf.pv)) (by omega);show F _ _=_;rw[h2];simp only[Be];cases ha:ans i with
    |some r=>rfl
    |none=>
      have:=DF ans h0 h1 k (i+1) n (by omega) (by omega);trivial
def CE(bad:Nat→Bool)(k i:Nat):Bool:=(List.range' i k).any bad
theorem K7(bad:Nat→Bool)(i:Nat):CE bad 0 i=false:=rfl
theorem CZ(bad:Nat→Bool)(k i:Nat):CE bad (k+1) i=(bad i||CE bad k (i+1)):=by rfl
theorem pP(bad:Nat→Bool)(r:List PV):∀(k i:Nat),Be (fun j=>cond (bad j) (some r) none) k i=cond (CE bad k i) (some r) none
 |0,i=>rfl
 |k+1,i=>by
  rw[CZ];simp only[Be];cases hb:bad i
  ·rw[Bool.false_or];exact pP bad r k (i+1)
  rfl
theorem lU{f g:Nat→Bool}:∀(k i:Nat),(∀j,i≤j→j<i+k→f j=g j)→CE f k i=CE g k i
 |0,i,_=>rfl
 |k+1,i,h=>by rw[CZ,CZ,h i (Nat.le_refl _) (by omega),lU k (i+1) (fun j h1 h2=>h j (by omega) (by omega))]
theorem L7{f:Nat→Bool}{k i:Nat}:CE f k i=false↔∀j,i≤j→j<i+k→f j=false:=by
 induction k generalizing i with
 |zero=>simp[K7];omega
 |succ k ih=>
  rw[CZ,Bool.or_eq_false_iff,ih]
  grind
theorem Nh{F:(List AW→Option (List PV))→List PV→Option (List PV)}{len:Nat}(bad:Nat→Bool)(r:List PV)
    (h0:∀self,F self [.int (len:Int)]=some [.int 1]) (h1:∀i self,i<len→F self [.int (i:Int)]=cond (bad i) (some (.int 0::r)) (self [.int ((i:Int)+1)])) (n:Nat) (hn:len<n) :
    CP F n [.int 0]=some (cond (CE bad len 0) (.int 0::r) [.int 1]):=by
  have:=DF (F:=F) (len:=len) (fun j=>cond (bad j) (some r) none) h0 (fun i self hi=>by grind) len 0 n (by omega) hn;rw[show(0:Int)=((0:Nat):Int)from rfl,this,pP];cases CE bad len 0<;>rfl
theorem BN{i:Nat}(h:i≤1099511627776):IntKind.i64.wrap ((i:Int)+1)=(i:Int)+1:=A0 (by omega) (by omega)
theorem AM{i len:Nat}(h:i<len):iIn (i:Int) (len:Int)=true:=by simp[iIn];omega
theorem Ae{i len:Nat}(h:i<len):iLt (i:Int) (len:Int)=true:=by simp[iLt];omega
theorem Aq(len:Nat):iLt (len:Int) (len:Int)=false:=by simp[iLt]
theorem vK{F:(List AW→Option (List PV))→List PV→Option (List PV)}{len:Nat}(enc:Nat→List AW)(bad:Nat→Bool)(r fin:List PV)
    (h0:∀self,F self ((enc len).map Leaf.pv)=some fin) (h1:∀i self,i<len→F self ((enc i).map Leaf.pv)=cond (bad i) (some r) (self (enc (i+1)))) (n:Nat) (hn:len<n) :
    CP F n ((enc 0).map Leaf.pv)=some (cond (CE bad len 0) r fin):=by
  have main:∀(k i n:Nat),i+k=len→k<n→CP F n ((enc i).map Leaf.pv)=some (cond (CE bad k i) r fin):=by
    intro k
    induction k with
    |zero=>
      intro i n hk hn;obtain⟨n,rfl⟩:∃m,n=m+1:=⟨n-1,by omega⟩;obtain rfl:i=len:=by omega
      exact h0 _
    |succ k ih=>
      intro i n hk hn;obtain⟨n,rfl⟩:∃m,n=m+1:=⟨n-1,by omega⟩;show F _ _=_;rw[h1 i _ (by omega),CZ]
      grind
  simp_all
theorem ADX(k i:Nat):CE (fun _=>false) k i=false:=L7.2 fun _ _ _=>rfl
theorem BC{F:(List AW→Option (List PV))→List PV→Option (List PV)}{len:Nat}(enc:Nat→List AW)(fin:List PV)
    (h0:∀self,F self ((enc len).map Leaf.pv)=some fin) (h1:∀i self,i<len→F self ((enc i).map Leaf.pv)=self (enc (i+1))) (n:Nat) (hn:len<n) :
    CP F n ((enc 0).map Leaf.pv)=some fin:=by
  have:=vK (F:=F) enc (fun _=>false) [] fin h0 h1 n hn;rw[ADX]at this;exact this
def FM(p:Nat→Bool):Nat→Option (List PV):=fun j=>cond (p j) (some [.int (j:Int)]) none
def S5(p:Nat→Bool)(k:Nat):Int:=match Be (FM p) k 0 with
 |some r=>pvI (AA r 0)
 |none => -1
theorem X1(p:Nat→Bool):∀k i,iLe 0 (match Be (FM p) k i with|some r=>pvI (AA r 0)|none => -1)=CE p k i
 |0,i=>rfl
 |k+1,i=>by
  rw[CZ];simp only[Be,FM];cases h:p i
  ·rw[Bool.false_or];exact X1 p k (i+1)
  rfl
theorem Lx(p:Nat→Bool)(k:Nat):iLe 0 (S5 p k)=CE p k 0:=X1 p k 0
theorem AFz{i len:Nat}(h:i≤len):iRg 0 (i:Int) (len:Int)=true:=by simp[iRg];omega
theorem Dk{n b:Nat}(h:n≤4194304)(hb:b≤4096):iSm (n:Int) b=true:=by
 have:n*b≤4194304*4096:=Nat.mul_le_mul h hb;simp only[iSm,decide_eq_true_eq];omega
def atI(L:Rows)(i j:Nat):Int:=pvI (AD L i j)
theorem CC(L:Rows)(i j:Nat):pvI (AD L i j)=atI L i j:=rfl
theorem AB9{L:Rows}{i j k:Nat}(h:j<i):atI (L.take i) j k=atI L j k:=by
 unfold atI AD AB
 simp_all
def Cz(p:Nat→Bool):Nat→Int
 |0=>0
 |i+1=>cond (p i) (Cz p i+1) (Cz p i)
theorem ui(p:Nat→Bool):∀i,0≤Cz p i∧Cz p i≤(i:Int)
 |0=>by simp[Cz]
 |i+1=>by
  have:=ui p i;unfold Cz
  grind
theorem tu(p:Nat→Bool){i:Nat}(h:i≤1099511627776):IntKind.i64.wrap (Cz p i+1)=Cz p i+1:=by
 have:=ui p i;exact A0 (by omega) (by omega)
theorem qY{p q:Nat→Bool}:∀i,(∀j,j<i→p j=q j)→Cz p i=Cz q i
 |0,_=>rfl
 |i+1,h=>by
  unfold Cz;rw[h i (by omega),qY i (fun j hj=>h j (by omega))]
theorem vF{p q:Nat→Bool}:∀i,(∀j,j<i→p j=true→q j=true)→Cz p i≤Cz q i
 |0,_=>by simp[Cz]
 |i+1,h=>by
  have h1:=vF i (fun j hj=>h j (by omega));have h2:=h i (by omega);unfold Cz
  grind
theorem AAP{p q:Nat→Bool}:∀i,(∀j,j<i→p j=true→q j=true)→Cz p i=Cz q i→∀j,j<i→p j=q j
 |0,_,_=>fun j hj=>by omega
 |i+1,h,he=>by
  have h1:=vF i (fun j hj=>h j (by omega));have h2:=h i (by omega);unfold Cz at he;intro j hj;have hpq:p i=q i∧Cz p i=Cz q i:=by
   grind
  rcases Nat.lt_or_ge j i with hji|hji
  ·exact AAP i (fun j hj=>h j (by omega)) hpq.2 j hji
  grind
theorem zx{p q:Nat→Bool}:∀i,(∀j,j<i→p j=true→q j=false)→Cz (fun j=>p j||q j) i=Cz p i+Cz q i
 |0,_=>rfl
 |i+1,h=>by
  have h1:=zx i (fun j hj=>h j (by omega));have h2:=h i (by omega);unfold Cz
  grind
theorem sS(s:Int):∀(i:Nat),0≤s→Cz (fun j=>s==(j:Int)+1) i=cond (!(s==0)&&iLe s (i:Int)) 1 0
 |0,hs=>by
  have:(!(s==0)&&iLe s ((0:Nat):Int))=false:=by
   rw[Bool.and_eq_false_iff]
   by_cases h:s=0
   ·simp_all
   exact .inr (by simp only[iLe,decide_eq_false_iff_not];omega)
  rw[this];rfl
 |i+1,hs=>by
  unfold Cz;rw[sS s i hs]
  by_cases h:s=(i:Int)+1
  ·have e1:(s==(i:Int)+1)=true:=by simp[h]
   have e2:iLe s (i:Int)=false:=by simp only[iLe,decide_eq_false_iff_not];omega
   have e3:iLe s ((i+1:Nat):Int)=true:=by simp only[iLe,decide_eq_true_eq];omega
   grind
  have e1:(s==(i:Int)+1)=false:=by simp[h]
  have e2:iLe s (i:Int)=iLe s ((i+1:Nat):Int):=by
   unfold iLe
   grind
  grind
theorem dF(f:Nat→Bool):∀(k i:Nat),CE f (k+1) i=(CE f k i||f (i+k))
 |0,i=>by rw[CZ,K7,K7];simp
 |k+1,i=>by rw[CZ,dF f k (i+1),CZ f k i,Bool.or_assoc];grind
theorem ZW(f:Nat→Bool):∀(k i:Nat),CE f k (i+1)=CE (fun j=>f (j+1)) k i
 |0,i=>rfl
 |k+1,i=>by rw[CZ,CZ,ZW f k (i+1)]
def Me(p:Int→Bool)(L:Rows):Bool:=CE (fun i=>p (atI L i 0)) L.length 0
theorem Q3(p:Int→Bool):∀(L:Rows),Me p L=L.any fun r=>p (pvI (AA r 0))
 | []=>rfl
 |r::L=>by
  have ih:=Q3 p L;unfold Me at ih⊢;rw[List.length_cons,CZ,ZW,List.any_cons,←ih];rfl
theorem vY(p:Int→Bool)(a b:Rows):Me p (a++b)=(Me p a||Me p b):=by
 rw[Q3,Q3,Q3,List.any_append]
theorem PXb:(∀{α β:Type} (f:α→β) (a:α) (l:List α),List.map f (a::l)=f a::List.map f l)∧(∀{α β:Type} (f:α→β),List.map f []=[]) ∧
    (∀i:Int,Leaf.pv (.int i:AW)=.int i)∧(∀i:Bool,Leaf.pv (.bool i:AW)=.bool i)∧(∀i:ByteArray,Leaf.pv (.str i:AW)=.str i)∧(∀i:Rows,Leaf.pv (.rows i:AW)=.rows i) ∧
    (∀{α β:Type} (a:α) (f:α→Option β),(some a).bind f=f a)∧(∀(p:PV) (r:List PV),AA (p::r) 0=p)∧(∀(p:PV) (r:List PV) (j:Nat),AA (p::r) (j+1)=AA r j) ∧
    (∀n:Int,pvI (.int n)=n)∧(∀n:Bool,pvB (.bool n)=n)∧(∀n:ByteArray,pvS (.str n)=n)∧(∀n:Rows,pvL (.rows n)=n) ∧
    (∀b p:Bool,cond b p false=(b&&p))∧(∀b p:Bool,cond b true p=(b||p))∧(∀{α:Type} (a b:α),cond true a b=a)∧(∀{α:Type} (a b:α),cond false a b=b) ∧
    (∀a b:Bool,(a&&(a&&b))=(a&&b))∧(∀a:Bool,(a&&a)=a)∧(∀a b:Bool,(a||(a||b))=(a||b))∧(∀a:Bool,(a||a)=a) ∧
    (∀a:Bool,(a||true)=true)∧(∀a:Bool,(a||false)=a)∧(∀a:Bool,(true||a)=true)∧(∀a:Bool,(false||a)=a) ∧
    (∀a:Bool,(a&&true)=a)∧(∀a:Bool,(a&&false)=false)∧(∀a:Bool,(true&&a)=a)∧(∀a:Bool,(false&&a)=false)∧((!true)=false)∧((!false)=true)∧(∀a:Bool,(!(!a))=a) ∧
    (∀n:Nat,(n:Int).toNat=n)∧(∀{O:Alg} (x:Ags O) (j:Nat),xr x [] j=[]) ∧
    (∀{O:Alg} (x:Ags O) (ks:List Nat) (j:Nat),xr x (0::ks) j=.int (x.I j)::xr x ks (j+1))∧(∀{O:Alg} (x:Ags O) (ks:List Nat) (j:Nat),xr x (1::ks) j=.bool (x.B j)::xr x ks (j+1)) ∧
    (∀{O:Alg} (x:Ags O) (ks:List Nat) (j:Nat),xr x (2::ks) j=.str (x.S j)::xr x ks (j+1))∧(∀{O:Alg} (x:Ags O) (ks:List Nat) (j:Nat),xr x (3::ks) j=.rows (x.L j)::xr x ks (j+1)) ∧
    (∀(O:Alg) (c:O.C) (j:Nat),cr O c [] j=[])∧(∀(O:Alg) (c:O.C) (ks:List Nat) (j:Nat),cr O c (0::ks) j=.int (O.d c j)::cr O c ks (j+1))∧(∀(O:Alg) (c:O.C) (ks:List Nat) (j:Nat),cr O c (1::ks) j=.bool (O.r c j)::cr O c ks (j+1)) ∧
    (∀(O:Alg) (c:O.C) (ks:List Nat) (j:Nat),cr O c (2::ks) j=.str (O.cS c j)::cr O c ks (j+1))∧(∀(O:Alg) (c:O.C) (ks:List Nat) (j:Nat),cr O c (3::ks) j=.rows (O.j c j)::cr O c ks (j+1)) ∧
    (∀(O:Alg) (l:O.L) (i:O.I) (j:Nat),rr O l i [] j=[])∧(∀(O:Alg) (l:O.L) (i:O.I) (ks:List Nat) (j:Nat),rr O l i (0::ks) j=.int (O.m l i j)::rr O l i ks (j+1))∧(∀(O:Alg) (l:O.L) (i:O.I) (ks:List Nat) (j:Nat),rr O l i (1::ks) j=.bool (O.rB l i j)::rr O l i ks (j+1)) ∧
    (∀(O:Alg) (l:O.L) (i:O.I) (ks:List Nat) (j:Nat),rr O l i (2::ks) j=.str (O.rS l i j)::rr O l i ks (j+1))∧(∀(O:Alg) (l:O.L) (i:O.I) (ks:List Nat) (j:Nat),rr O l i (3::ks) j=.rows (O.rL l i j)::rr O l i ks (j+1)) ∧
    (kI=[0,0,0,0,0,0,0,0,0,0,0,0,0,0,3,0,3,3,1,3,1,0,0,0,3,0,0,0])∧(kR=[2,0,0,0,0,0,0,0,1,0,0,0,0,3])∧(kM=[2,0,0,0,0,0,0,0,1,0,0,0,0,3,0,0,1,3,0,0,0,0,0]) ∧
    (∀(O:Alg) (b:List O.Lf),ap O [] b=b)∧(∀(O:Alg) (x:O.Lf) (a b:List O.Lf),ap O (x::a) b=x::ap O a b) ∧
    (∀{α:Type} (x:α) (a b:List α),x::a++b=x::(a++b))∧(∀{α:Type} (b:List α),[]++b=b):=by
  repeat' apply And.intro
  all_goals first|decide|(intros;rfl)|exact AAB|exact lK|exact AF8|exact Int.toNat_natCast
theorem PXc:(∀(b:Bool) (x y:List PV) (j:Nat),pvB (AA (cond b x y) j)=cond b (pvB (AA x j)) (pvB (AA y j)))∧(∀(b:Bool) (x y:List PV) (j:Nat),pvI (AA (cond b x y) j)=cond b (pvI (AA x j)) (pvI (AA y j))) ∧
    (∀(b:Bool) (x y:List PV) (j:Nat),pvS (AA (cond b x y) j)=cond b (pvS (AA x j)) (pvS (AA y j)))∧(∀(b:Bool) (x y:List PV) (j:Nat),pvL (AA (cond b x y) j)=cond b (pvL (AA x j)) (pvL (AA y j))):=⟨AFu,AFw,AFe,AFY⟩
theorem PXn:(∀a b:Bool,(!(a||b))=(!a && !b))∧(∀a b:Bool,(!(a&&b))=(!a || !b))∧(∀b p:Bool,cond b false p=(!b&&p))∧(∀b p:Bool,cond b p true=(!b||p)):=⟨by decide,by decide,AFK,AFb⟩
structure Inn where
 side:Int
 target:Int
 overs:Int
 runs:Int
 wickets:Int
 wides:Int
 noballs:Int
 byes:Int
 legbyes:Int
 pens:Int
 complete:Int
 inover:Int
 striker:Int
 other:Int
 batters:Rows
 bowler:Int
 bowlers:Rows
 before:Rows
 fresh:Bool
 bowled:Rows
 freehit:Bool
 ballage:Int
 keeper:Int
 outside:Int
 subs:Rows
 rev1:Int
 rev2:Int
 ending:Int
structure Rul where
 name:ByteArray
 side:Int
 innings:Int
 overs:Int
 balls:Int
 quota:Int
 wide:Int
 noball:Int
 freehit:Bool
 newball:Int
 followon:Int
 reviews:Int
 outside:Int
 power:Rows
structure Del where
 type:Int
 source:Int
 runs:Int
 short:Int
 boundary:Int
 crossed:Bool
 how:Int
 victim:Int
 fielder:Int
 second:Int
 sub:Bool
 sector:Int
structure Ev where
 kind:Int
 side:Int
 player:Int
 other:Int
 yes:Bool
 runs:Int
 overs:Int
 ball:Del
def Inn.ls(s:Inn):List PV:=[.int s.side,.int s.target,.int s.overs,.int s.runs,.int s.wickets,.int s.wides,.int s.noballs,.int s.byes,.int s.legbyes,.int s.pens,.int s.complete,.int s.inover,.int s.striker,.int s.other,.rows s.batters,.int s.bowler,.rows s.bowlers,.rows s.before,.bool s.fresh,.rows s.bowled,.bool s.freehit,.int s.ballage,.int s.keeper,.int s.outside,.rows s.subs,.int s.rev1,.int s.rev2,.int s.ending]
def Rul.ls(r:Rul):List PV:=[.str r.name,.int r.side,.int r.innings,.int r.overs,.int r.balls,.int r.quota,.int r.wide,.int r.noball,.bool r.freehit,.int r.newball,.int r.followon,.int r.reviews,.int r.outside,.rows r.power]
def Del.ls(d:Del):List PV:=[.int d.type,.int d.source,.int d.runs,.int d.short,.int d.boundary,.bool d.crossed,.int d.how,.int d.victim,.int d.fielder,.int d.second,.bool d.sub,.int d.sector]
def Bo(x:Inn×Int):List PV:=[.int x.1.side,.int x.1.target,.int x.1.overs,.int x.1.runs,.int x.1.wickets,.int x.1.wides,.int x.1.noballs,.int x.1.byes,.int x.1.legbyes,.int x.1.pens,.int x.1.complete,.int x.1.inover,.int x.1.striker,.int x.1.other,.rows x.1.batters,.int x.1.bowler,.rows x.1.bowlers,.rows x.1.before,.bool x.1.fresh,.rows x.1.bowled,.bool x.1.freehit,.int x.1.ballage,.int x.1.keeper,.int x.1.outside,.rows x.1.subs,.int x.1.rev1,.int x.1.rev2,.int x.1.ending,.int x.2]
structure Fit(bt bw bf bd sb:Rows):Prop where
 bt:bt.length≤1048576
 bw:bw.length≤1048576
 bf:bf.length≤1048576
 bd:bd.length≤1048576
 sb:sb.length≤1048576
theorem Fit.bw'{bt bw bf bd sb:Rows}(h:Fit bt bw bf bd sb):bw.length≤1048576:=h.bw
theorem AFN{L:Rows}{b:Nat}(h:L.length≤1048576)(hb:b≤4096):iSm (L.length:Int) b=true:=Dk (by omega) hb
abbrev Inn.Fit(s:Inn):Prop:=Px.Fit s.batters s.bowlers s.before s.bowled s.subs
def inR(p:Int)(n:Nat):Bool:=iLe 1 p&&iLe p (n:Int)
theorem Nd{p:Int}{n:Nat}(h:inR p n=true)(hn:n≤1048576):iIn (IntKind.i64.wrap (p-1)) (n:Int)=true:=by
 simp only[inR,iLe,zzk,decide_eq_true_eq]at h;rw[A0 (by omega) (by omega)];simp only[iIn,decide_eq_true_eq];omega
theorem AEj(b:Bool)(x y z:Int):(cond b x y==z)=cond b (x==z) (y==z):=by grind
theorem AEm(b:Bool)(x y:Int):cond b [PV.int x] [PV.int y]=[PV.int (cond b x y)]:=by grind
theorem SX:((0:Nat):Int)=0:=rfl
theorem ur:((1:Nat):Int)=1:=rfl
theorem AEP:((2:Nat):Int)=2:=rfl
theorem AFJ:((3:Nat):Int)=3:=rfl
theorem ADr(b x:Bool):cond b b x=(b||x):=by simp_all
theorem Inn.eta(s:Inn):Inn.mk s.side s.target s.overs s.runs s.wickets s.wides s.noballs s.byes s.legbyes s.pens s.complete s.inover s.striker s.other s.batters s.bowler s.bowlers s.before s.fresh s.bowled s.freehit s.ballage s.keeper s.outside s.subs s.rev1 s.rev2 s.ending=s:=rfl
theorem Rul.eta(r:Rul):Rul.mk r.name r.side r.innings r.overs r.balls r.quota r.wide r.noball r.freehit r.newball r.followon r.reviews r.outside r.power=r:=rfl
theorem AFH{p:Int}{n:Nat}{X Y:Option (List PV)}(hn:n≤1048576):cond (inR p n) (cond (iIn (IntKind.i64.wrap (p-1)) (n:Int)) X none) Y=cond (inR p n) X Y:=by
 cases h:inR p n
 ·rfl
 rw[Nd h hn];rfl
def ix(p:Int):Nat:=(IntKind.i64.wrap (p-1)).toNat
def Q9(L:Rows)(p v:Int):Rows:=L.set (ix p) (Ad (AB L (ix p)) 0 [.int v])
def ABU(L:Rows)(p:Int)(v:Bool):Rows:=L.set (ix p) (Ad (AB L (ix p)) 0 [.bool v])
theorem Nq(L:Rows)(p v:Int):(Q9 L p v).length=L.length:=by simp[Q9]
theorem AB3(L:Rows)(p:Int)(v:Bool):(ABU L p v).length=L.length:=by simp[ABU]
theorem CA{L:Rows}{b:Nat}(h:L.length≤1048576)(hb:b≤4096):SE b [.rows L]=some [.rows L]:=by
 have h1:=Dk (n:=L.length) (b:=b) (by omega) hb;have:fO L.length b=true:=by
  simp only[iSm,decide_eq_true_eq]at h1;simp only[fO,decide_eq_true_eq];omega
 simp only[SE,this]
def Dz(L:Rows):Bool:=CE (fun i => !(atI L i 0==0)) L.length 0
def J8(L:Rows)(s n:Int):Bool:=Dz L&&(s==0||n==0)
def Fr(L:Rows):Nat→Rows
 |0=>[]
 |i+1=>cond (atI L i 0==0||atI L i 0==3) (Fr L i++[[.int ((i:Int)+1)]]) (Fr L i)
theorem iS(L:Rows):∀i,(Fr L i).length≤i
 |0=>Nat.le_refl _
 |i+1=>by
  have:=iS L i;unfold Fr
  grind
theorem PXm:(∀(b:Bool) (x y:List PV),cond b (some x) (some y)=some (cond b x y))∧(∀{α:Type} (b:Bool) (x:α),cond b x x=x)∧(∀b x:Bool,cond b b x=(b||x))∧(((0:Nat):Int)=0)∧(((1:Nat):Int)=1)∧(((2:Nat):Int)=2)∧(((3:Nat):Int)=3) ∧
    (∀(b:Bool) (x y:Int),cond b [PV.int x] [PV.int y]=[PV.int (cond b x y)])∧(∀(b x y:Bool),cond b [PV.bool x] [PV.bool y]=[PV.bool (cond b x y)])∧(∀{α:Type} (l:List α) (i:Nat) (a:α),(l.set i a).length=l.length) ∧
    (∀(b:Bool) (x y z:Int),(cond b x y==z)=cond b (x==z) (y==z))∧(∀x:Int,(x==x)=true)∧(∀x:Bool,(x==x)=true) ∧
    (∀s:Inn,s.ls=[.int s.side,.int s.target,.int s.overs,.int s.runs,.int s.wickets,.int s.wides,.int s.noballs,.int s.byes,.int s.legbyes,.int s.pens,.int s.complete,.int s.inover,.int s.striker,.int s.other,.rows s.batters,.int s.bowler,.rows s.bowlers,.rows s.before,.bool s.fresh,.rows s.bowled,.bool s.freehit,.int s.ballage,.int s.keeper,.int s.outside,.rows s.subs,.int s.rev1,.int s.rev2,.int s.ending]) ∧
    (∀x:Inn×Int,Bo x=[.int x.1.side,.int x.1.target,.int x.1.overs,.int x.1.runs,.int x.1.wickets,.int x.1.wides,.int x.1.noballs,.int x.1.byes,.int x.1.legbyes,.int x.1.pens,.int x.1.complete,.int x.1.inover,.int x.1.striker,.int x.1.other,.rows x.1.batters,.int x.1.bowler,.rows x.1.bowlers,.rows x.1.before,.bool x.1.fresh,.rows x.1.bowled,.bool x.1.freehit,.int x.1.ballage,.int x.1.keeper,.int x.1.outside,.rows x.1.subs,.int x.1.rev1,.int x.1.rev2,.int x.1.ending,.int x.2]) ∧
    (∀s:Inn,Inn.mk s.side s.target s.overs s.runs s.wickets s.wides s.noballs s.byes s.legbyes s.pens s.complete s.inover s.striker s.other s.batters s.bowler s.bowlers s.before s.fresh s.bowled s.freehit s.ballage s.keeper s.outside s.subs s.rev1 s.rev2 s.ending=s) ∧
    (∀r:Rul,Rul.mk r.name r.side r.innings r.overs r.balls r.quota r.wide r.noball r.freehit r.newball r.followon r.reviews r.outside r.power=r):=
  ⟨AEQ,AEr,ADr,SX,ur,AEP,AFJ,AEm,AEq,fun _ _ _=>List.length_set,AEj,fun _=>beq_self_eq_true _,fun _=>beq_self_eq_true _,fun _=>rfl,fun _=>rfl,Inn.eta,Rul.eta⟩
end Go.Px
end
