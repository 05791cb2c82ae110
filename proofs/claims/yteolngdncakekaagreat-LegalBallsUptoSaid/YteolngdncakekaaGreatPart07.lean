/- Part 7. -/
import Derived.Test.YteolngdncakekaaGreatPart06
import Derived.WalkSpells
import Derived.Lib.Bytealg
import Derived.Lib.Strings
set_option linter.unusedVariables false
set_option linter.unusedSimpArgs false
section
namespace Go.Px
def Vv:Operand→Bool
 | .const (.slice none 0 0)=>true
 | _=>false
def Iq (T:TypeId):Code→Option (Code×Code)
 | .seq (.region _ r0 false) (.seq (.seq (.region _ r1 false) (.cond (.tmp 4) nb .skip)) tail)=>match r0.toList,r1.toList with
  | [⟨some 2,.assign (.const _),_,_,_,none⟩],[⟨some 3,.move (.tmp 0),_,_,_,none⟩,⟨some 4,.binOp .eql U (.tmp 3) z _,_,_,_,none⟩]=>match Nat.beq U T&&Vv z with
   | true=>some (nb,tail)
   | false=>none
  | _,_=>none
 | _=>none
def F6 {O:Alg} (e:TypeId) (l:O.L):State O:={ tm:=BT 0 [.val ⟨false,[.imm e false l]⟩] .e,bx:=[],hp:=[],st:=1 }
section
variable {E:Env} {N:Nat} {P:Program} {cfg:Cfg} {n0 n0':Nz} {nt:Nat} {β β':Nat→Option Nat} {σ σ':Nat→Option (Nat×Nat)} {s s' s2:St0 E N} {a a':Act} {w w':World}
theorem Sim.put_free (hs:Sim P n0 nt β σ s a w) {d:Nat} {z:Value} (hd:s.getT d=none) (hg:∀ n tv,s.getT n=some tv→tv.gs=[]):Sim P n0 nt β σ s (a.put (some d) z) w:=by
 refine ⟨hs.n0le,by simp [Act.put,hs.size],fun n tv hn=>?_,hs.M⟩
 have hne:n≠d:=fun e=>by rw [e,hd] at hn;cases hn
 rw [Dw hne]
 have g0:=hg n tv hn
 rcases hs.T n tv hn with ⟨h1,h2⟩ | ⟨h1,h2⟩
 ·exact .inl ⟨by rw [g0];exact fun n b hm=>by simp at hm,h2⟩
 ·exact (h1 (by rw [g0];exact fun n b hm=>by simp at hm)).elim
theorem RC {ops:Array Oper} {Q:Exit→Act→World→Prop} {i:Nat} {o:Oper} (ho:ops[i]?=some o) (hg:o.guard=none) {v:Value} (hx:(execOp a.eval o).run P w=.ok (.value v) w) {K:Act→World→Prop} (hK:K (a.put o.dst v) w):wpOp P ops Q i K a w:=by
 unfold wpOp
 simp only [ho,Region.wanted,hg,if_true]
 refine .inl ?_
 unfold Oper.wp
 rw [hx];exact hK
theorem fD {d:Option Tmp} {t:TypeId} {p:String} {af:Array Edge} {g:Option (Nat×Bool)} {x:Operand} {v:Value} (h:a.eval x=v):(execOp a.eval ⟨d,.move x,t,p,af,g⟩).run P w=.ok (.value v) w:=by
 subst h;rfl
theorem cJ {d:Option Tmp} {t:TypeId} {p:String} {af:Array Edge} {g:Option (Nat×Bool)} {x:Operand} {v:Value} (h:a.eval x=v):(execOp a.eval ⟨d,.assign x,t,p,af,g⟩).run P w=.ok (.value v) w:=by
 subst h;rfl
theorem dL {o:Oper} {Q:Exit→Act→World→Prop} (hg:o.guard=none) {v:Value} (hx:(execOp a.eval o).run P w=.ok (.value v) w) (hK:Q .normal (a.put o.dst v) w):wpOps P #[o] Q (List.range 1) a w:=by
 show wpOps P #[o] Q [0] a w
 rw [wpOps_cons]
 exact RC rfl hg hx hK
theorem dJ {o o' : Oper} {Q : Exit → Act → World → Prop} (hg : o.guard = none) (hg' : o'.guard = none) {v v' : Value} (hx : (execOp a.eval o).run P w = .ok (.value v) w) (hx' : (execOp (a.put o.dst v).eval o').run P w = .ok (.value v') w)
    (hK:Q .normal ((a.put o.dst v).put o'.dst v') w):wpOps P #[o,o'] Q (List.range 2) a w:=by
  show wpOps P #[o,o'] Q [0,1] a w
  rw [wpOps_cons]
  refine RC rfl hg hx ?_
  rw [wpOps_cons]
  exact RC rfl hg' hx' hK
theorem aX (hmix : P.follows .mixedOrders = true) (hΓ : ∀ ci ∈ cfg.gam, BU P E N ci ∧ BU P E N { ci with own := false }) {own own' nw : Bool} (ho : own' = true → own = true) {f : FuncId} {T e : TypeId} {fn : Func} (hfn : P.funcs[f]? = some fn) (hp : fn.params.toList = [T]) (hT : P.underlying T = some (.slice e))
    {body nb tail:Code} (hb:fn.body=some body) (hpc:Iq T body=some (nb,tail)) (ht1:CJ fn.ntmps nb=true) (ht2:CJ fn.ntmps tail=true) (hna:(an P nb).nrm.isNone=true) (hnt:5≤fn.ntmps) {lv:Lv} {l:Rows}
    (h1:l=[]→XL (O:=std E N) P cfg 6 nb true lv (F6 e l) (Xb P own nw fn)=some [.rows l]) (h2:XL (O:=std E N) P cfg 6 tail true lv (F6 e l) (Xb P own nw fn)=some [.rows l])
    {vs:List (AV (std E N))} {hs:List (Nat×HEnt (std E N))} (hv:A0 (O:=std E N) P [] 1 fn.params.toList [] ([PV.rows l].map PV.leaf)=some (vs,hs)) (hn0:n0.n=w.heap.size) (m:Mem P n0 noB σ (AR hs) w) {args:List Value} (hr:RelArgs P n0 noB σ (AR hs) w vs args) :
    Calls P f args.toArray w (Ret (E:=E) (N:=N) P ⟨f,[],own',nw,[]⟩ n0 σ (AR hs) w fn [.rows l]):=by
  have hlk:AJ P T=.sl e:=by simp [AJ,hT]
  obtain ⟨rfl,rfl⟩:vs=[.val ⟨false,[.imm e false l]⟩]∧hs=[]:=by
    rw [hp] at hv
    unfold A0 at hv
    simp only [hlk] at hv
    cases ht:AQ P T with
    | none=>rw [ht] at hv;cases hv
    | some ts =>
      rw [ht] at hv
      have:ts=[T]:=by
        unfold AQ at ht
        simp only [CQ,Bl,hT] at ht
        split at ht
        · cases ht;rfl
        · cases ht
      subst this
      have hag:AS P T=false:=by simp [AS,hT]
      simp [Ad,hlk,PV.leaf,A0,hag] at hv
      exact ⟨hv.1.symm,hv.2⟩
  obtain ⟨v,rfl⟩:∃ v,args=[v]:=by
    have:=hr.len
    match args,this with
    | [v],_=>exact ⟨v,rfl⟩
  have hv0:RelVal P n0 noB σ (AR []) w (⟨false,[.imm e false l]⟩:Val (std E N)) v:=hr.1
  obtain ⟨hc1,hc2⟩:=hv0
  have hc2:v.oneCell'=true:=hc2
  rw [BM hc2] at hc1
  obtain ⟨t0,ht0,hrep⟩:RelC P n0 noB σ (AR ([]:List (Nat×HEnt (std E N)))) w (.imm e false l) v:=hc1.1
  obtain ⟨ad,len,cap,hvs,hnil⟩:∃ ad len cap,v=.slice ad len cap∧(ad=none→l=[]):=by
    cases hrep with
    | sl v h hts hl hrl hcap hm hv =>
      refine ⟨_,_,_,rfl,fun ha=>?_⟩
      rcases hm with hm | ⟨b,off,hb,_⟩
      · exact List.length_eq_zero_iff.1 (by rw [hl];exact hm)
      · rw [hb] at ha;cases ha
  subst hvs
  unfold Iq at hpc
  split at hpc
  case h_2=>cases hpc
  rename_i i0 r0 i1 r1 nb' tail'
  split at hpc
  case h_2=>cases hpc
  rename_i c0 ty0 pos0 af0 ty1 pos1 af1 U z uT ty2 pos2 af2 hr0 hr1
  split at hpc
  case h_2=>cases hpc
  rename_i hUz
  cases hpc
  simp only [Bool.and_eq_true] at hUz
  have hU:=AA.1 hUz.1
  subst hU
  obtain rfl:z=.const (.slice none 0 0):=by
    have:=hUz.2
    unfold Vv at this
    split at this
    · rfl
    · cases this
  have e0:r0=#[⟨some 2,.assign (.const c0),ty0,pos0,af0,none⟩]:=by apply Array.ext';exact hr0
  have e1:r1=#[⟨some 3,.move (.tmp 0),ty1,pos1,af1,none⟩,⟨some 4,.binOp .eql U (.tmp 3) (.const (.slice none 0 0)) uT,ty2,pos2,af2,none⟩]:=by apply Array.ext';exact hr1
  subst e0;subst e1
  let sx:St0 E N:={ tm:=.e,bx:=[],hp:=[],st:=1 }
  have subx:Sub (AR ([]:List (Nat×HEnt (std E N)))) sx:=Sub.of_same (fun _=>rfl) (fun _=>rfl)
  have mx:Mem P n0 noB σ sx w:=subx.mem m
  have hrx:RelArgs P n0 noB σ sx w [.val ⟨false,[.imm e false l]⟩] [.slice ad len cap]:=(subx.ext P (fun _=>False) noB σ w).relArgs hr
  have hfx:∀ n,sx.st≤n→I9 sx n:=fun n hn=>⟨fun k e he=>(by cases he),fun k e he=>(by cases he)⟩
  have hs1:=fA (s:=sx) (nt:=fn.ntmps) (Nat.le_of_eq hn0) mx hrx
  have wf1:WF (F6 e l:St0 E N):=wf0 (s:=sx) hfx (args:=[.val ⟨false,[.imm e false l]⟩]) (fun x hx n hn=>by simp at hx;subst hx;simp [AV.names,AE,AC.names] at hn)
  have hs1:Sim P n0 (D8 fn.ntmps [.slice ad len cap]).tmps.size noB σ (F6 e l:St0 E N) (D8 fn.ntmps [.slice ad len cap]) w:=hs1
  have subs1:Sub sx (F6 e l:St0 E N):=Sub.of_same (fun _=>rfl) (fun _=>rfl)
  have free:∀ d,d≠0→(F6 e l:St0 E N).getT d=none:=fun d hd=>by
    cases hx:(F6 e l:St0 E N).getT d with
    | none=>rfl
    | some tv =>
      have hx:CM (BT 0 [.val ⟨false,[.imm e false l]⟩] (.e:TM (TV (std E N)))) d=some tv:=hx
      rcases MC hx with h | ⟨_,v,h1,_⟩
      · rw [QU] at h;cases h
      · have:=(List.getElem?_eq_some_iff.1 h1).1
        simp at this;omega
  have hs2:=((hs1.put_free (d:=2) (z:=c0) (free 2 (by omega)) wf1.gs).put_free (d:=3) (z:=.slice ad len cap) (free 3 (by omega)) wf1.gs).put_free (d:=4) (z:=.bool ad.isNone) (free 4 (by omega)) wf1.gs
  have hsz:=TB (nt:=fn.ntmps) (vals:=[.slice ad len cap])
  have ht1':=MJ hsz ht1
  have ht2':=MJ hsz ht2
  have x0:∀ {β':Nat→Option Nat} {σ':Nat→Option (Nat×Nat)} {s':St0 E N} {w':World},Ext P (fun n=>(F6 e l:St0 E N).st≤n) noB σ (F6 e l) w β' σ' s' w'→Ext P (fun _=>True) noB σ (AR ([]:List (Nat×HEnt (std E N)))) w β' σ' s' w':=fun x =>
    (((subx.ext P (fun _=>False) noB σ w).trans (subs1.ext P (fun _=>False) noB σ w)).trans x).weaken (fun _ _=>trivial)
  have hget0:((D8 fn.ntmps [Value.slice ad len cap]).put (some 2) c0).tmps.getD 0 undef=.slice ad len cap:=by
    rw [Dw (by omega)]
    simp only [D8]
    rw [Array.getD_eq_getD_getElem?,Array.getElem?_append_left (by simp)]
    rfl
  have hget3:(((D8 fn.ntmps [Value.slice ad len cap]).put (some 2) c0).put (some 3) (.slice ad len cap)).tmps.getD 3 undef=.slice ad len cap:=by
    refine JL ?_
    have:5≤(D8 fn.ntmps [Value.slice ad len cap]).tmps.size:=Nat.le_trans hnt hsz
    simp [Act.put];omega
  have hget4:((((D8 fn.ntmps [Value.slice ad len cap]).put (some 2) c0).put (some 3) (.slice ad len cap)).put (some 4) (.bool ad.isNone)).tmps.getD 4 undef=.bool ad.isNone:=by
    refine JL ?_
    have:5≤(D8 fn.ntmps [Value.slice ad len cap]).tmps.size:=Nat.le_trans hnt hsz
    simp [Act.put];omega
  generalize hB:bodyPost P fn (Ret (E:=E) (N:=N) P ⟨f,[],own',nw,[]⟩ n0 σ (AR []) w fn [.rows l])=B
  generalize hA:(((D8 fn.ntmps [Value.slice ad len cap]).put (some 2) c0).put (some 3) (.slice ad len cap)).put (some 4) (.bool ad.isNone)=A at hs2 hget4
  have hAd:A.defers=[]:=by rw [← hA];rfl
  have fin:(Code.cond (.tmp 4) nb Code.skip).wp P (Exit.then (tail.wp P B) B) A w:=by
    refine wp_cond_split (t:=ad.isNone) (c:=.tmp 4) (a:=A) hget4 (fun ht=>?_) (fun ht=>?_)
    · have hl:=hnil (by cases ad with | none=>rfl | some _=>simp at ht)
      refine YY hmix hΓ 6 n0 _ _ ht1' _ _ _ _ _ noB σ _ w _ (h1 hl) hs2 wf1 (fun ex s' β' σ' a' w' hk mm hmm hp wf' hle=>?_)
      have hfin:=ZX (f:=f) (fns:=[]) (gives:=[]) (fn:=fn) ho hp.sim (hp.defers.trans hAd) (x0 hp.ext) hk
      rw [hB] at hfin
      cases ex with
      | nrm =>
        have:(an P nb).nrm=some mm:=hmm
        rw [this] at hna;cases hna
      | ret=>exact hfin
      | ext id=>exact hfin
    · refine wp_skip ?_
      refine YY hmix hΓ 6 n0 _ _ ht2' _ _ _ _ _ noB σ _ w B h2 hs2 wf1 (fun ex s' β' σ' a' w' hk mm hmm hp wf' hle=>?_)
      rw [← hB]
      exact ZX ho hp.sim (hp.defers.trans hAd) (x0 hp.ext) hk
  refine calls_of_wp hfn hb ?_
  rw [hB]
  refine wp_seq (wp_region (dL (o:=⟨some 2,.assign (.const c0),ty0,pos0,af0,none⟩) rfl (v:=c0) (cJ (x:=.const c0) rfl) ?_))
  show (Code.seq (Code.seq _ _) tail).wp P B ((D8 fn.ntmps [Value.slice ad len cap]).put (some 2) c0) w
  refine wp_seq (wp_seq (wp_region (dJ (o:=⟨some 3,.move (.tmp 0),ty1,pos1,af1,none⟩) (o':=⟨some 4,.binOp .eql U (.tmp 3) (.const (.slice none 0 0)) uT,ty2,pos2,af2,none⟩) rfl rfl (v:=.slice ad len cap) (v':=.bool ad.isNone)
    (fD (a:=(D8 fn.ntmps [Value.slice ad len cap]).put (some 2) c0) (x:=.tmp 0) hget0) (CB (x:=do eqGuard .eql U (.tmp 3) (.const (.slice none 0 0)) ((((D8 fn.ntmps [Value.slice ad len cap]).put (some 2) c0).put (some 3) (.slice ad len cap)).eval (.tmp 3)) (.slice none 0 0);Go.binOp .eql U ((((D8 fn.ntmps [Value.slice ad len cap]).put (some 2) c0).put (some 3) (.slice ad len cap)).eval (.tmp 3)) (.slice none 0 0)) (by simp [execOp,Act.eval]) (by
    rw [show ((((D8 fn.ntmps [Value.slice ad len cap]).put (some 2) c0).put (some 3) (.slice ad len cap)).eval (.tmp 3))=.slice ad len cap from hget3]
    exact Ah (Gn _ _ _ _ _ _ rfl (by simp)) (Lib.run_eql_slice_nil (P:=P) w U e ad len cap 0 0 hT))) ?_)))
  rw [← hA] at fin
  exact fin
end
end Go.Px
end
section
namespace Go.Px
def Pg:List Nat→List PV→Bool
 | [],[]=>true
 | k::ks,p::ps=>(match p with | .int _=>Nat.beq k 0 | .bool _=>Nat.beq k 1 | .str _=>Nat.beq k 2 | .rows _=>Nat.beq k 3)&&Pg ks ps
 | _,_=>false
structure Ags (O:Alg) where
 I:Nat→O.I
 B:Nat→O.B
 S:Nat→O.S
 L:Nat→O.L
def xr {O:Alg} (x:Ags O):List Nat→Nat→List O.Lf
 | [],_=>[]
 | k::ks,j=>(match k with | 0=>.int (x.I j) | 1=>.bool (x.B j) | 2=>.str (x.S j) | _=>.rows (x.L j))::xr x ks (j+1)
def cr (O:Alg) (c:O.C):List Nat→Nat→List O.Lf
 | [],_=>[]
 | k::ks,j=>(match k with | 0=>.int (O.cI c j) | 1=>.bool (O.cB c j) | 2=>.str (O.cS c j) | _=>.rows (O.cL c j))::cr O c ks (j+1)
def rr (O:Alg) (l:O.L) (i:O.I):List Nat→Nat→List O.Lf
 | [],_=>[]
 | k::ks,j=>(match k with | 0=>.int (O.rI l i j) | 1=>.bool (O.rB l i j) | 2=>.str (O.rS l i j) | _=>.rows (O.rL l i j))::rr O l i ks (j+1)
def kI:List Nat:=[0,0,0,0,0,0,0,0,0,0,0,0,0,0,3,0,3,3,1,3,1,0,0,0,3,0,0,0]
def kR:List Nat:=[2,0,0,0,0,0,0,0,1,0,0,0,0,3]
def kM:List Nat:=[2,0,0,0,0,0,0,0,1,0,0,0,0,3,0,0,1,3,0,0,0,0,0]
def ap (O:Alg) (a b:List O.Lf):List O.Lf:=a++b
def xOf {E:Env} {N:Nat} (ls:List PV):Ags (std E N):={ I:=fun j=>pvI (AD ls j),B:=fun j=>pvB (AD ls j),S:=fun j=>pvS (AD ls j),L:=fun j=>pvL (AD ls j) }
theorem Y8 {E:Env} {N:Nat}:∀ {ks:List Nat} {ps pre:List PV},Pg ks ps=true→ps.map PV.leaf=xr (xOf (E:=E) (N:=N) (pre++ps)) ks pre.length
 | [],[],pre,_=>rfl
 | k::ks,p::ps,pre,h=>by
  simp only [Pg,Bool.and_eq_true] at h
  have ih:=Y8 (E:=E) (N:=N) (ks:=ks) (ps:=ps) (pre:=pre++[p]) h.2
  simp only [List.map_cons,xr]
  have hc:AD (pre++p::ps) pre.length=p:=by
   unfold AD
   rw [List.getD_eq_getElem?_getD,List.getElem?_append_right (Nat.le_refl _)];simp
  rw [List.append_assoc,List.length_append] at ih
  have ih:ps.map PV.leaf=xr (xOf (E:=E) (N:=N) (pre++p::ps)) ks (pre.length+1):=ih
  rw [ih]
  congr 1
  have h1:=h.1
  cases p with
  | int n=>have:=AA.1 h1;subst this;simp [xOf,hc,PV.leaf]
  | bool n=>have:=AA.1 h1;subst this;simp [xOf,hc,PV.leaf]
  | str n=>have:=AA.1 h1;subst this;simp [xOf,hc,PV.leaf]
  | rows n=>have:=AA.1 h1;subst this;simp [xOf,hc,PV.leaf]
 | [],_::_,_,h=>by simp [Pg] at h
 | _::_,[],_,h=>by simp [Pg] at h
theorem aR {E:Env} {N:Nat} {ks:List Nat} {ls:List PV} (h:Pg ks ls=true):ls.map PV.leaf=xr (xOf (E:=E) (N:=N) ls) ks 0:=Y8 (pre:=[]) h
def N6 (ks:List Nat) (ls:List PV) (F:Option (List PV)):Option (List PV):=match Pg ks ls with
 | true=>F
 | false=>none
theorem Y2 {ks:List Nat} {ls rs:List PV} {F:Option (List PV)} (h:N6 ks ls F=some rs):Pg ks ls=true∧F=some rs:=by
 unfold N6 at h
 split at h
 ·rename_i hs;exact ⟨hs,h⟩
 ·cases h
abbrev VV (P:Program) (E:Env) (N:Nat) (ci:CI):Prop:=BU P E N ci∧BU P E N { ci with own:=false }
theorem OC {P:Program} {E:Env} {N:Nat}:∀ ci∈([]:List CI),VV P E N ci:=fun ci h=>by simp at h
theorem DZ {P:Program} {E:Env} {N:Nat} {c:CI} {l:List CI} (h:VV P E N c) (k:∀ ci∈l,VV P E N ci):∀ ci∈c::l,VV P E N ci:=fun ci hm=>by
 rcases List.mem_cons.1 hm with rfl | hm
 ·exact h
 ·exact k ci hm
theorem Hp {P : Program} (hmix : P.follows .mixedOrders = true) {E : Env} {N : Nat} {cfg : Cfg} (hΓ : ∀ ci ∈ cfg.gam, VV P E N ci) {ci : CI} {ks : List Nat} {c F : List PV → Option (List PV)} (hc : ∀ ls, c ls = N6 ks ls (F ls))
    (hx:∀ ls,XF (O:=std E N) P cfg ci.own ci.nw ci.gives ci.f ci.fns (xr (xOf ls) ks 0)=F ls) {E':Env} {N':Nat} (h:∀ ls,E' ci.f ci.fns ls=c ls):VV P E' N' ci :=
  eg hmix hΓ (fun ls rs he=>by
    rw [h,hc] at he
    obtain ⟨h1,h2⟩:=Y2 he
    rw [aR h1,hx];exact h2)
def T4 (n b:Nat):Bool:=decide (n≤17592186044416∧n * b≤17592186044416)
def MT (b:Nat) (ls:List PV):Option (List PV):=match ls with
 | [.rows l]=>match T4 l.length b with
  | true=>some [.rows l]
  | false=>none
 | _=>none
def Ob (T:TypeId) (fn:Func):Code:=match fn.body with
 | some c=>match Iq T c with
  | some (nb,_)=>nb
  | none=>.skip
 | none=>.skip
def Pj (T:TypeId) (fn:Func):Code:=match fn.body with
 | some c=>match Iq T c with
  | some (_,t)=>t
  | none=>.skip
 | none=>.skip
def XQ (fn:Func):Lv:={ nrm:=Ls fn.results.toList,ret:=Ls fn.results.toList,exts:=[] }
def bI (P:Program) (T:TypeId) (fn:Func):Bool:=match fn.body with
 | some c=>(Iq T c).isSome&&CJ fn.ntmps (Ob T fn)&&CJ fn.ntmps (Pj T fn)&&(an P (Ob T fn)).nrm.isNone&&Nat.ble 5 fn.ntmps&&As fn.params.toList [T]
 | none=>false
theorem MM {P : Program} (hmix : P.follows .mixedOrders = true) {f : FuncId} {T e : TypeId} {b : Nat} {fn : Func} (hfn : P.funcs[f]? = some fn) (hT : P.underlying T = some (.slice e)) (hok : bI P T fn = true) (hb : b ≤ 1048576)
    (h1:∀ (O:Alg) (l:O.L),XL (O:=O) P { gam:=[] } 6 (Ob T fn) true (XQ fn) (F6 e l) (Xb P true true fn)=O.ret [.rows O.lnil])
    (h2:∀ (O:Alg) (l:O.L),XL (O:=O) P { gam:=[] } 6 (Pj T fn) true (XQ fn) (F6 e l) (Xb P true true fn)=O.assert (O.small (O.llen (O.lapp (O.llit []) l)) b) (O.ret [.rows (O.lapp (O.llit []) l)]))
    {E':Env} {N':Nat} (h:∀ ls,E' f [] ls=MT b ls):VV P E' N' ⟨f,[],true,true,[]⟩:=by
  unfold bI at hok
  split at hok
  case h_2=>cases hok
  rename_i c hbody
  simp only [Bool.and_eq_true] at hok
  obtain ⟨⟨⟨⟨⟨k1,k2⟩,k3⟩,k4⟩,k5⟩,k6⟩:=hok
  have k5:=Nat.le_of_ble_eq_true k5
  have k6:=Gk.1 k6
  obtain ⟨⟨nb,tail⟩,hpc⟩:=Option.isSome_iff_exists.1 k1
  have hnb:Ob T fn=nb:=by simp [Ob,hbody,hpc]
  have htl:Pj T fn=tail:=by simp [Pj,hbody,hpc]
  rw [hnb] at k2 k4
  rw [htl] at k3
  have main : ∀ own', (own' = true → true = true) → ∀ (ls rs : List PV), E' f [] ls = some rs → ∀ fn', P.funcs[f]? = some fn' → ∀ (vs : List (AV (std E' N'))) (hs : List (Nat × HEnt (std E' N'))), A0 (O := std E' N') P [] 1 fn'.params.toList [] (ls.map PV.leaf) = some (vs, hs) →
      ∀ (n0:Nz) (σ:Nat→Option (Nat×Nat)) (w:World) (args:List Value),n0.n=w.heap.size→Mem P n0 noB σ (AR hs) w→RelArgs P n0 noB σ (AR hs) w vs args→Calls P f args.toArray w (Ret (E:=E') (N:=N') P ⟨f,[],own',true,[]⟩ n0 σ (AR hs) w fn' rs) :=
    fun own' ho ls rs he fn' hfn' vs hs hv n0 σ w args hn0 m hr=>by
      rw [hfn] at hfn';cases hfn'
      rw [h] at he
      unfold MT at he
      split at he
      case h_2=>cases he
      rename_i l
      split at he
      case h_2=>cases he
      rename_i hsm
      cases he
      unfold T4 at hsm
      have hsm:=of_decide_eq_true hsm
      refine aX (cfg:={ gam:=[] }) hmix (fun ci hm=>by simp at hm) ho hfn k6 hT hbody hpc k2 k3 k4 k5 (lv:=XQ fn) (fun hl=>?_) ?_ hv hn0 m hr
      · rw [← hnb,h1,hl];rfl
      · rw [← htl,h2]
        have:(decide ((0:Int)≤((([]++l:Rows).length:Nat):Int)∧((([]++l:Rows).length:Nat):Int)≤17592186044416∧((([]++l:Rows).length:Nat):Int) * (b:Int)≤17592186044416∧b≤1048576))=true:=by
          simp only [List.nil_append,decide_eq_true_eq]
          refine ⟨by omega,by omega,?_,hb⟩
          have:=hsm.2
          rw [← Int.natCast_mul];omega
        show cond (decide ((0:Int)≤((([]++l:Rows).length:Nat):Int)∧((([]++l:Rows).length:Nat):Int)≤17592186044416∧((([]++l:Rows).length:Nat):Int) * (b:Int)≤17592186044416∧b≤1048576)) (some [PV.rows ([]++l)]) none=_
        rw [this];rfl
  exact ⟨Ll (ci:=⟨f,[],true,true,[]⟩) (main true (fun _=>rfl)),Ll (ci:=⟨f,[],false,true,[]⟩) (main false (fun _=>rfl))⟩
end Go.Px
end
section
namespace Go.Px
open Go.RowKit
def V8 (ls:List PV):Option (List PV):=match ls with
 | [.str s,.int c]=>some [.int (Lib.indexByte s.data.toList c.toNat.toUInt8)]
 | _=>none
theorem aG {P : Program} {f : FuncId} {T5 T9 T3 : TypeId} {fn : Func} (hfn : P.funcs[f]? = some fn) (hp : fn.params = #[T9, T5]) (hr : fn.resultTypes = #[T3]) (h9 : P.underlying T9 = some .string) (h5 : P.underlying T5 = some (.int .u8)) (h3 : P.underlying T3 = some (.int .i64)) (h3t : AQ P T3 = some [T3])
    (hc:∀ (s:ByteArray) (c:Int) (w:World),Calls P f #[.string s,.int .u8 c] w fun e w'=>e=.returned (.int .i64 (Lib.indexByte s.data.toList c.toNat.toUInt8))∧w'=w)
    {E':Env} {N':Nat} (h:∀ ls,E' f [] ls=V8 ls):VV P E' N' ⟨f,[],true,true,[]⟩:=by
  have l9:AJ P T9=.str:=by simp [AJ,h9]
  have l5:AJ P T5=.int .u8:=by simp [AJ,h5]
  have l3:AJ P T3=.int .i64:=by simp [AJ,h3]
  have a3:AS P T3=false:=by simp [AS,h3]
  have a5:AS P T5=false:=by simp [AS,h5]
  have a9:AS P T9=false:=by simp [AS,h9]
  have ty:∀ {T:TypeId} {x:List TypeId} {d:TypeDesc},P.underlying T=some d→(∀ k,Bl P (k+1) T=some [T])→AQ P T=some x→x=[T]:=fun {T x d} _ hk hx=>by
    unfold AQ at hx
    rw [show CQ=19+1 from rfl,hk] at hx
    simp only at hx
    split at hx
    · cases hx;rfl
    · cases hx
  have main : ∀ own', ∀ (ls rs : List PV), E' f [] ls = some rs → ∀ fn', P.funcs[f]? = some fn' → ∀ (vs : List (AV (std E' N'))) (hs : List (Nat × HEnt (std E' N'))), A0 (O := std E' N') P [] 1 fn'.params.toList [] (ls.map PV.leaf) = some (vs, hs) →
      ∀ (n0:Nz) (σ:Nat→Option (Nat×Nat)) (w:World) (args:List Value),n0.n=w.heap.size→Mem P n0 noB σ (AR hs) w→RelArgs P n0 noB σ (AR hs) w vs args→Calls P f args.toArray w (Ret (E:=E') (N:=N') P ⟨f,[],own',true,[]⟩ n0 σ (AR hs) w fn' rs) :=
    fun own' ls rs he fn' hfn' vs hs hv n0 σ w args hn0 m hra=>by
      rw [hfn] at hfn';cases hfn'
      rw [h] at he
      unfold V8 at he
      split at he
      case h_2=>cases he
      rename_i s c
      cases he
      rw [hp] at hv
      have hT9:AQ P T9=none∨AQ P T9=some [T9]:=by
        cases hx:AQ P T9 with
        | none=>exact .inl rfl
        | some x=>exact .inr (by rw [ty h9 (fun k=>by simp [Bl,h9]) hx])
      have hT5:AQ P T5=none∨AQ P T5=some [T5]:=by
        cases hx:AQ P T5 with
        | none=>exact .inl rfl
        | some x=>exact .inr (by rw [ty h5 (fun k=>by simp [Bl,h5]) hx])
      unfold A0 at hv
      simp only [l9] at hv
      rcases hT9 with hT9 | hT9
      · simp [hT9] at hv
      simp only [hT9,List.map_cons,List.map_nil,PV.leaf,Ad,l9,Option.map_some] at hv
      unfold A0 at hv
      simp only [l5] at hv
      rcases hT5 with hT5 | hT5
      · simp [hT5] at hv
      simp [hT5,Ad,l5,A0,a9,a5] at hv
      obtain ⟨rfl,rfl⟩:=hv
      obtain ⟨v1,v2,rfl⟩:∃ v1 v2,args=[v1,v2]:=by
        have:=hra.len
        match args,this with
        | [v1,v2],_=>exact ⟨v1,v2,rfl⟩
      obtain ⟨q1,q2,_⟩:=hra
      have q1:RelVal P n0 noB σ (AR []) w (⟨false,[.str s]⟩:Val (std E' N')) v1:=q1
      have q2:RelVal P n0 noB σ (AR []) w (⟨false,[.int .u8 c]⟩:Val (std E' N')) v2:=q2
      obtain ⟨g1,g2⟩:=q1
      have g2:v1.oneCell'=true:=g2
      rw [BM g2] at g1
      have e1:v1=.string s:=g1.1
      obtain ⟨k1,k2⟩:=q2
      have k2:v2.oneCell'=true:=k2
      rw [BM k2] at k1
      have e2:v2=.int .u8 c:=k1.1
      subst e1;subst e2
      refine Calls.mono (hc s c w) (fun e w' hp2=>?_)
      obtain ⟨rfl,rfl⟩:=hp2
      refine ⟨rfl,rfl,rfl,Nat.le_refl _,fun _ _ _=>rfl,fun q=>⟨fun _=>none,[⟨false,[.int .i64 _]⟩],[],?_,⟨fun _ _ h=>(by cases h),fun _ _ h=>(by cases h),fun _ _ _ _ _ h=>(by cases h),fun _ _ _ _ _ _ _ h=>(by cases h),fun _ _ _ _ _ _ h=>(by cases h)⟩,⟨⟨rfl,trivial⟩,rfl⟩,fun b hb=>?_⟩⟩
      · rw [hr]
        simp [BI,h3t,Ak,l3,a3]
        rfl
      · rcases hb with ⟨_,_,hx,_⟩ | ⟨_,_,_,hx,_⟩
        · cases hx
        · cases hx
  exact ⟨Ll (ci:=⟨f,[],true,true,[]⟩) (main true),Ll (ci:=⟨f,[],false,true,[]⟩) (main false)⟩
end Go.Px
end
section
namespace Go.Px
def cI (n:Nat):CI:=⟨n,[],true,true,[]⟩
def Vd (P:Program) (n:Nat) (c:Nat→List PV→Option (List PV)):Prop:=∀ {E:Env} {M:Nat} (N:Nat),(∀ ls,E n [] ls=c N ls)→VV P E M (cI n)
def eL (l:List (Nat×(Nat→List PV→Option (List PV)))) (N:Nat):Env:=fun f fns ls=>match l with
 | []=>none
 | p::r=>cond (Nat.beq f p.1&&As fns []) (p.2 N ls) (eL r N f fns ls)
def oS (ks:List Nat) (t:∀ O:Alg,Ags O→O.M) (env:Nat→Env) (N:Nat) (ls:List PV):Option (List PV):=N6 ks ls (t (std (env N) N) (xOf ls))
inductive Gs (P:Program):List (Nat×(Nat→List PV→Option (List PV)))→Prop
 | nil:Gs P []
 | cons {n:Nat} {c:Nat→List PV→Option (List PV)} {l:List (Nat×(Nat→List PV→Option (List PV)))} (h:Vd P n c) (t:Gs P l):Gs P ((n,c)::l)
theorem g0 {P:Program}:Gs P []:=.nil
theorem gs {P:Program} {n:Nat} {c:Nat→List PV→Option (List PV)} {l:List (Nat×(Nat→List PV→Option (List PV)))} (h:Vd P n c) (t:Gs P l):Gs P ((n,c)::l):=.cons h t
def Nx:List Nat→Bool
 | []=>true
 | n::l=>l.all (fun m => !Nat.beq m n)&&Nx l
theorem dP {l:List (Nat×(Nat→List PV→Option (List PV)))} {N:Nat}:∀ {pre:List (Nat×(Nat→List PV→Option (List PV)))} {n:Nat} {c:Nat→List PV→Option (List PV)} {ls:List PV},pre.all (fun p => !Nat.beq n p.1)=true→eL (pre++(n,c)::l) N n [] ls=c N ls
 | [],n,c,ls,_=>by
  show cond (Nat.beq n n&&true) (c N ls) _=_
  rw [Nat.beq_refl];rfl
 | p::pre,n,c,ls,h=>by
  rw [List.all_cons,Bool.and_eq_true] at h
  have h1:Nat.beq n p.1=false:=by
   have:=h.1
   simpa using this
  show cond (Nat.beq n p.1&&true) _ (eL (pre++(n,c)::l) N n [] ls)=_
  rw [h1]
  exact dP h.2
theorem dK {P:Program} {N:Nat}:∀ {l:List (Nat×(Nat→List PV→Option (List PV)))} {pre:List (Nat×(Nat→List PV→Option (List PV)))},Gs P l→(∀ p∈l,pre.all (fun q => !Nat.beq p.1 q.1)=true)→Nx (l.map (·.1))=true→∀ ci∈l.map (fun p=>cI p.1),VV P (eL (pre++l) N) N ci
 | [],_,_,_,_,ci,h=>by cases h
 | (n,c)::l,pre,.cons hv ht,hp,ha,ci,h=>by
  rw [List.map_cons,List.mem_cons] at h
  rcases h with h | h
  ·subst h
   exact hv N (fun ls=>dP (hp (n,c) (List.mem_cons_self ..)))
  ·simp only [List.map_cons,Nx,Bool.and_eq_true] at ha
   have:=dK (N:=N) (pre:=pre++[(n,c)]) ht (fun p hm=>by
    rw [List.all_append,hp p (List.mem_cons_of_mem _ hm),Bool.true_and]
    have h1:=List.all_eq_true.1 ha.1 p.1 (List.mem_map.2 ⟨p,hm,rfl⟩)
    simpa using h1) ha.2 ci h
   rw [List.append_assoc] at this
   exact this
theorem vti {P : Program} (hmix : P.follows .mixedOrders = true) (imm old : Bool) (ie : List Nat) {n : Nat} {c : Nat → List PV → Option (List PV)} (ks : List Nat) (t : ∀ O : Alg, Ags O → O.M) (l : List (Nat × (Nat → List PV → Option (List PV)))) (hg : Gs P l) (ha : Nx (l.map (·.1)) = true)
    (hc:∀ N ls,c N ls=N6 ks ls (t (std (eL l N) N) (xOf ls)))
    (hx:∀ (O:Alg) (x:Ags O),XF (O:=O) P { gam:=l.map (fun p=>cI p.1),imm:=imm,old:=old,ie:=ie } true true [] n [] (xr x ks 0)=t O x):Vd P n c:=fun N h =>
  Hp hmix (E:=eL l N) (N:=N) (cfg:={ gam:=l.map (fun p=>cI p.1),imm:=imm,old:=old,ie:=ie }) (ci:=cI n) (dK (pre:=[]) hg (fun _ _=>rfl) ha) (hc N) (fun ls=>hx _ _) h
theorem vt {P : Program} (hmix : P.follows .mixedOrders = true) {n : Nat} {c : Nat → List PV → Option (List PV)} (ks : List Nat) (t : ∀ O : Alg, Ags O → O.M) (l : List (Nat × (Nat → List PV → Option (List PV)))) (hg : Gs P l) (ha : Nx (l.map (·.1)) = true)
    (hc:∀ N ls,c N ls=N6 ks ls (t (std (eL l N) N) (xOf ls)))
    (hx:∀ (O:Alg) (x:Ags O),XF (O:=O) P { gam:=l.map (fun p=>cI p.1) } true true [] n [] (xr x ks 0)=t O x):Vd P n c:=vti hmix false false [] ks t l hg ha hc hx
theorem vE {P:Program} {n:Nat} {c:Nat→List PV→Option (List PV)} (v:Vd P n c) {E:Env} {M:Nat} (N:Nat) (h:∀ ls,E n [] ls=c N ls):VV P E M (cI n):=v N h
end Go.Px
end
section
namespace Go.Px
def rI (xs:List Int):Rows:=xs.map fun n=>[PV.int n]
def rB (xs:List Bool):Rows:=xs.map fun n=>[PV.bool n]
theorem Hv {n:Int} (h1 : -9223372036854775808≤n) (h2:n≤9223372036854775807):IntKind.i64.wrap n=n:=by
 unfold IntKind.wrap
 simp [IntKind.signed,IntKind.bits]
 omega
theorem AF (b:Bool) (x y:List PV) (k:List PV→Option (List PV)):(cond b (some x) (some y):Option (List PV)).bind k=k (cond b x y):=by cases b<;>rfl
theorem jN (b:Bool) (x y:List PV) (j:Nat):pvB (AD (cond b x y) j)=cond b (pvB (AD x j)) (pvB (AD y j)):=by cases b<;>rfl
theorem jf (b:Bool) (x y:List PV) (j:Nat):pvI (AD (cond b x y) j)=cond b (pvI (AD x j)) (pvI (AD y j)):=by cases b<;>rfl
theorem jZ (b:Bool) (x y:List PV) (j:Nat):pvS (AD (cond b x y) j)=cond b (pvS (AD x j)) (pvS (AD y j)):=by cases b<;>rfl
theorem jh (b:Bool) (x y:List PV) (j:Nat):pvL (AD (cond b x y) j)=cond b (pvL (AD x j)) (pvL (AD y j)):=by cases b<;>rfl
theorem Vn (b p:Bool):cond b p false=(b&&p):=by cases b<;>rfl
theorem jj (b p:Bool):cond b true p=(b||p):=by cases b<;>rfl
theorem iC (b p:Bool):cond b false p=(!b&&p):=by cases b<;>rfl
theorem jM (b p:Bool):cond b p true=(!b||p):=by cases b<;>rfl
theorem jD (b:Bool) (x y:List PV):cond b (some x) (some y)=some (cond b x y):=by cases b<;>rfl
theorem i5 {α:Type} (b:Bool) (x:α):cond b x x=x:=by cases b<;>rfl
theorem iP (b p q:Bool):cond b [PV.bool p] [PV.bool q]=[PV.bool (cond b p q)]:=by cases b<;>rfl
theorem X2 (p:PV) (r:List PV):AD (p::r) 0=p:=rfl
theorem ck (p:PV) (r:List PV) (j:Nat):AD (p::r) (j+1)=AD r j:=by simp [AD]
theorem AM {F:(List AY→Option (List PV))→List PV→Option (List PV)} {n:Nat} {c r:List PV} {k:List PV→Option (List PV)} {g:Option (List PV)} (h:Gc F n c=some r) (hk:k r=g):(Gc F n c).bind k=g:=by
 rw [h];exact hk
def Bu (ans:Nat→Option (List PV)):Nat→Nat→Option (List PV)
 | 0,_=>none
 | k+1,i=>match ans i with
  | some r=>some r
  | none=>Bu ans k (i+1)
def Tq:Option (List PV)→List PV
 | some r=>.int 0::r
 | none=>[.int 1]
theorem Cg {F : (List AY → Option (List PV)) → List PV → Option (List PV)} {len : Nat} (ans : Nat → Option (List PV))
    (h0:∀ self,F self [.int (len:Int)]=some [.int 1]) (h1:∀ i self,i<len→F self [.int (i:Int)]=match ans i with | some r=>some (.int 0::r) | none=>self [.int ((i:Int)+1)]) :
    ∀ (k i n:Nat),i+k=len→k<n→Gc F n [.int (i:Int)]=some (Tq (Bu ans k i))
  | 0,i,n,hk,hn=>by
    obtain ⟨n,rfl⟩:∃ m,n=m+1:=⟨n - 1,by omega⟩
    obtain rfl:i=len:=by omega
    exact h0 _
  | k+1,i,n,hk,hn=>by
    obtain ⟨n,rfl⟩:∃ m,n=m+1:=⟨n - 1,by omega⟩
    have h2:=h1 i (fun ls=>Gc F n (ls.map Leaf.pv)) (by omega)
    show F _ _=_
    rw [h2]
    simp only [Bu]
    cases ha:ans i with
    | some r=>rfl
    | none =>
      have:=Cg ans h0 h1 k (i+1) n (by omega) (by omega)
      show Gc F n [.int ((i:Int)+1)]=_
      rw [show ((i:Int)+1)=(((i+1:Nat)):Int) by omega]
      exact this
def BS (bad:Nat→Bool) (k i:Nat):Bool:=(List.range' i k).any bad
theorem H7 (bad:Nat→Bool) (i:Nat):BS bad 0 i=false:=rfl
theorem Bo (bad:Nat→Bool) (k i:Nat):BS bad (k+1) i=(bad i||BS bad k (i+1)):=by simp only [BS,List.range'_succ,List.any_cons]
theorem Xu (bad:Nat→Bool) (r:List PV):∀ (k i:Nat),Bu (fun j=>cond (bad j) (some r) none) k i=cond (BS bad k i) (some r) none
 | 0,i=>rfl
 | k+1,i=>by
  rw [Bo]
  simp only [Bu]
  cases hb:bad i with
  | true=>rfl
  | false=>rw [Bool.false_or];exact Xu bad r k (i+1)
theorem WO {f g:Nat→Bool}:∀ (k i:Nat),(∀ j,i≤j→j<i+k→f j=g j)→BS f k i=BS g k i
 | 0,i,_=>rfl
 | k+1,i,h=>by rw [Bo,Bo,h i (Nat.le_refl _) (by omega),WO k (i+1) (fun j h1 h2=>h j (by omega) (by omega))]
theorem IP {f:Nat→Bool} {k i:Nat}:BS f k i=false↔∀ j,i≤j→j<i+k→f j=false:=by
 induction k generalizing i with
 | zero=>simp [H7];intro j h1 h2;omega
 | succ k ih =>
  rw [Bo,Bool.or_eq_false_iff,ih]
  constructor
  ·intro ⟨h1,h2⟩ j h3 h4
   rcases Nat.lt_or_ge i j with h | h
   ·exact h2 j h (by omega)
   ·obtain rfl:j=i:=by omega
    exact h1
  ·intro h;exact ⟨h i (Nat.le_refl _) (by omega),fun j h1 h2=>h j (by omega) (by omega)⟩
theorem Ju {F : (List AY → Option (List PV)) → List PV → Option (List PV)} {len : Nat} (bad : Nat → Bool) (r : List PV)
    (h0:∀ self,F self [.int (len:Int)]=some [.int 1]) (h1:∀ i self,i<len→F self [.int (i:Int)]=cond (bad i) (some (.int 0::r)) (self [.int ((i:Int)+1)])) (n:Nat) (hn:len<n) :
    Gc F n [.int 0]=some (cond (BS bad len 0) (.int 0::r) [.int 1]):=by
  have:=Cg (F:=F) (len:=len) (fun j=>cond (bad j) (some r) none) h0 (fun i self hi=>by rw [h1 i self hi];cases bad i<;>rfl) len 0 n (by omega) hn
  rw [show (0:Int)=((0:Nat):Int) from rfl,this,Xu]
  cases BS bad len 0<;>rfl
theorem Aw {i:Nat} (h:i≤1099511627776):IntKind.i64.wrap ((i:Int)+1)=(i:Int)+1:=Hv (by omega) (by omega)
theorem Ag {i len:Nat} (h:i<len):iIn (i:Int) (len:Int)=true:=by simp [iIn];omega
theorem Az {i len:Nat} (h:i<len):iLt (i:Int) (len:Int)=true:=by simp [iLt];omega
theorem BX (len:Nat):iLt (len:Int) (len:Int)=false:=by simp [iLt]
theorem Zj {F : (List AY → Option (List PV)) → List PV → Option (List PV)} {len : Nat} (enc : Nat → List AY) (bad : Nat → Bool) (r fin : List PV)
    (h0:∀ self,F self ((enc len).map Leaf.pv)=some fin) (h1:∀ i self,i<len→F self ((enc i).map Leaf.pv)=cond (bad i) (some r) (self (enc (i+1)))) (n:Nat) (hn:len<n) :
    Gc F n ((enc 0).map Leaf.pv)=some (cond (BS bad len 0) r fin):=by
  have main:∀ (k i n:Nat),i+k=len→k<n→Gc F n ((enc i).map Leaf.pv)=some (cond (BS bad k i) r fin):=by
    intro k
    induction k with
    | zero =>
      intro i n hk hn
      obtain ⟨n,rfl⟩:∃ m,n=m+1:=⟨n - 1,by omega⟩
      obtain rfl:i=len:=by omega
      exact h0 _
    | succ k ih =>
      intro i n hk hn
      obtain ⟨n,rfl⟩:∃ m,n=m+1:=⟨n - 1,by omega⟩
      show F _ _=_
      rw [h1 i _ (by omega),Bo]
      cases bad i with
      | true=>rfl
      | false=>exact ih (i+1) n (by omega) (by omega)
  exact main len 0 n (by omega) hn
theorem gx (k i:Nat):BS (fun _=>false) k i=false:=IP.2 fun _ _ _=>rfl
theorem BE {F : (List AY → Option (List PV)) → List PV → Option (List PV)} {len : Nat} (enc : Nat → List AY) (fin : List PV)
    (h0:∀ self,F self ((enc len).map Leaf.pv)=some fin) (h1:∀ i self,i<len→F self ((enc i).map Leaf.pv)=self (enc (i+1))) (n:Nat) (hn:len<n) :
    Gc F n ((enc 0).map Leaf.pv)=some fin:=by
  have:=Zj (F:=F) enc (fun _=>false) [] fin h0 h1 n hn
  rw [gx] at this
  exact this
def FR (p:Nat→Bool):Nat→Option (List PV):=fun j=>cond (p j) (some [.int (j:Int)]) none
def Mz (p:Nat→Bool) (k:Nat):Int:=match Bu (FR p) k 0 with
 | some r=>pvI (AD r 0)
 | none => -1
theorem UU (p:Nat→Bool):∀ k i,iLe 0 (match Bu (FR p) k i with | some r=>pvI (AD r 0) | none => -1)=BS p k i
 | 0,i=>rfl
 | k+1,i=>by
  rw [Bo]
  simp only [Bu,FR]
  cases h:p i with
  | true=>simp only [cond_true,X2,Bool.true_or,pvI,iLe];simp
  | false=>rw [Bool.false_or];exact UU p k (i+1)
theorem IV (p:Nat→Bool) (k:Nat):iLe 0 (Mz p k)=BS p k 0:=UU p k 0
theorem jd {i len:Nat} (h:i≤len):iRg 0 (i:Int) (len:Int)=true:=by simp [iRg];omega
theorem Fj {n b:Nat} (h:n≤4194304) (hb:b≤4096):iSm (n:Int) b=true:=by
 have:n * b≤4194304 * 4096:=Nat.mul_le_mul h hb
 simp only [iSm,decide_eq_true_eq]
 refine ⟨by omega,by omega,?_,by omega⟩
 rw [← Int.natCast_mul];omega
def atI (L:Rows) (i j:Nat):Int:=pvI (AB L i j)
theorem D2 (L:Rows) (i j:Nat):pvI (AB L i j)=atI L i j:=rfl
theorem et {L:Rows} {i j k:Nat} (h:j<i):atI (L.take i) j k=atI L j k:=by
 unfold atI AB Ac
 simp only [List.getD_eq_getElem?_getD]
 rw [List.getElem?_take_of_lt h]
def CC (p:Nat→Bool):Nat→Int
 | 0=>0
 | i+1=>cond (p i) (CC p i+1) (CC p i)
theorem dr (p:Nat→Bool):∀ i,0≤CC p i∧CC p i≤(i:Int)
 | 0=>by simp [CC]
 | i+1=>by
  have:=dr p i
  unfold CC
  cases p i<;>simp only [cond_true,cond_false]<;>omega
theorem Zm (p:Nat→Bool) {i:Nat} (h:i≤1099511627776):IntKind.i64.wrap (CC p i+1)=CC p i+1:=by
 have:=dr p i
 exact Hv (by omega) (by omega)
theorem X1 {p q:Nat→Bool}:∀ i,(∀ j,j<i→p j=q j)→CC p i=CC q i
 | 0,_=>rfl
 | i+1,h=>by
  unfold CC
  rw [h i (by omega),X1 i (fun j hj=>h j (by omega))]
theorem Zc {p q:Nat→Bool}:∀ i,(∀ j,j<i→p j=true→q j=true)→CC p i≤CC q i
 | 0,_=>by simp [CC]
 | i+1,h=>by
  have h1:=Zc i (fun j hj=>h j (by omega))
  have h2:=h i (by omega)
  unfold CC
  cases hp:p i with
  | true=>rw [h2 hp];simp only [cond_true];omega
  | false=>cases q i<;>simp only [cond_true,cond_false]<;>omega
theorem cy {p q:Nat→Bool}:∀ i,(∀ j,j<i→p j=true→q j=true)→CC p i=CC q i→∀ j,j<i→p j=q j
 | 0,_,_=>fun j hj=>by omega
 | i+1,h,he=>by
  have h1:=Zc i (fun j hj=>h j (by omega))
  have h2:=h i (by omega)
  unfold CC at he
  intro j hj
  have hpq:p i=q i∧CC p i=CC q i:=by
   cases hp:p i with
   | true =>
    have hq:=h2 hp
    rw [hp,hq] at he;simp only [cond_true] at he
    exact ⟨hq.symm,by omega⟩
   | false =>
    cases hq:q i with
    | true=>rw [hp,hq] at he;simp only [cond_true,cond_false] at he;omega
    | false=>rw [hp,hq] at he;simp only [cond_false] at he;exact ⟨rfl,he⟩
  rcases Nat.lt_or_ge j i with hji | hji
  ·exact cy i (fun j hj=>h j (by omega)) hpq.2 j hji
  ·obtain rfl:j=i:=by omega
   exact hpq.1
theorem dB {p q:Nat→Bool}:∀ i,(∀ j,j<i→p j=true→q j=false)→CC (fun j=>p j||q j) i=CC p i+CC q i
 | 0,_=>rfl
 | i+1,h=>by
  have h1:=dB i (fun j hj=>h j (by omega))
  have h2:=h i (by omega)
  unfold CC
  rw [h1]
  cases hp:p i with
  | true=>rw [h2 hp];simp only [Bool.true_or,cond_true,cond_false];omega
  | false=>cases q i<;>simp only [Bool.false_or,cond_true,cond_false]<;>omega
theorem Yx (s:Int):∀ (i:Nat),0≤s→CC (fun j=>s==(j:Int)+1) i=cond (!(s==0)&&iLe s (i:Int)) 1 0
 | 0,hs=>by
  have:(!(s==0)&&iLe s ((0:Nat):Int))=false:=by
   rw [Bool.and_eq_false_iff]
   by_cases h:s=0
   ·subst h;exact .inl rfl
   ·exact .inr (by simp only [iLe,decide_eq_false_iff_not];omega)
  rw [this];rfl
 | i+1,hs=>by
  unfold CC
  rw [Yx s i hs]
  by_cases h:s=(i:Int)+1
  ·have e1:(s==(i:Int)+1)=true:=by simp [h]
   have e2:iLe s (i:Int)=false:=by simp only [iLe,decide_eq_false_iff_not];omega
   have e3:iLe s ((i+1:Nat):Int)=true:=by simp only [iLe,decide_eq_true_eq];omega
   have e4:(s==0)=false:=by simp only [beq_eq_false_iff_ne];omega
   rw [e1,e2,e3,e4];rfl
  ·have e1:(s==(i:Int)+1)=false:=by simp [h]
   have e2:iLe s (i:Int)=iLe s ((i+1:Nat):Int):=by
    unfold iLe
    rw [Bool.eq_iff_iff,decide_eq_true_eq,decide_eq_true_eq];omega
   rw [e1,e2];rfl
theorem TD (f:Nat→Bool):∀ (k i:Nat),BS f (k+1) i=(BS f k i||f (i+k))
 | 0,i=>by rw [Bo,H7,H7];simp
 | k+1,i=>by rw [Bo,TD f k (i+1),Bo f k i,Bool.or_assoc];congr 3;omega
theorem WV (f:Nat→Bool):∀ (k i:Nat),BS f k (i+1)=BS (fun j=>f (j+1)) k i
 | 0,i=>rfl
 | k+1,i=>by rw [Bo,Bo,WV f k (i+1)]
def Ik (p:Int→Bool) (L:Rows):Bool:=BS (fun i=>p (atI L i 0)) L.length 0
theorem LY (p:Int→Bool):∀ (L:Rows),Ik p L=L.any fun r=>p (pvI (AD r 0))
 | []=>rfl
 | r::L=>by
  have ih:=LY p L
  unfold Ik at ih ⊢
  rw [List.length_cons,Bo,WV,List.any_cons,← ih]
  rfl
theorem Ys (p:Int→Bool) (a b:Rows):Ik p (a++b)=(Ik p a||Ik p b):=by
 rw [LY,LY,LY,List.any_append]
theorem PXb : (∀ {α β : Type} (f : α → β) (a : α) (l : List α), List.map f (a :: l) = f a :: List.map f l) ∧ (∀ {α β : Type} (f : α → β), List.map f [] = []) ∧
    (∀ i:Int,Leaf.pv (.int i:AY)=.int i)∧(∀ i:Bool,Leaf.pv (.bool i:AY)=.bool i)∧(∀ i:ByteArray,Leaf.pv (.str i:AY)=.str i)∧(∀ i:Rows,Leaf.pv (.rows i:AY)=.rows i) ∧
    (∀ {α β:Type} (a:α) (f:α→Option β),(some a).bind f=f a)∧(∀ (p:PV) (r:List PV),AD (p::r) 0=p)∧(∀ (p:PV) (r:List PV) (j:Nat),AD (p::r) (j+1)=AD r j) ∧
    (∀ n:Int,pvI (.int n)=n)∧(∀ n:Bool,pvB (.bool n)=n)∧(∀ n:ByteArray,pvS (.str n)=n)∧(∀ n:Rows,pvL (.rows n)=n) ∧
    (∀ b p:Bool,cond b p false=(b&&p))∧(∀ b p:Bool,cond b true p=(b||p))∧(∀ {α:Type} (a b:α),cond true a b=a)∧(∀ {α:Type} (a b:α),cond false a b=b) ∧
    (∀ a b:Bool,(a&&(a&&b))=(a&&b))∧(∀ a:Bool,(a&&a)=a)∧(∀ a b:Bool,(a||(a||b))=(a||b))∧(∀ a:Bool,(a||a)=a) ∧
    (∀ a:Bool,(a||true)=true)∧(∀ a:Bool,(a||false)=a)∧(∀ a:Bool,(true||a)=true)∧(∀ a:Bool,(false||a)=a) ∧
    (∀ a:Bool,(a&&true)=a)∧(∀ a:Bool,(a&&false)=false)∧(∀ a:Bool,(true&&a)=a)∧(∀ a:Bool,(false&&a)=false)∧((!true)=false)∧((!false)=true)∧(∀ a:Bool,(!(!a))=a) ∧
    (∀ n:Nat,(n:Int).toNat=n)∧(∀ {O:Alg} (x:Ags O) (j:Nat),xr x [] j=[]) ∧
    (∀ {O:Alg} (x:Ags O) (ks:List Nat) (j:Nat),xr x (0::ks) j=.int (x.I j)::xr x ks (j+1))∧(∀ {O:Alg} (x:Ags O) (ks:List Nat) (j:Nat),xr x (1::ks) j=.bool (x.B j)::xr x ks (j+1)) ∧
    (∀ {O:Alg} (x:Ags O) (ks:List Nat) (j:Nat),xr x (2::ks) j=.str (x.S j)::xr x ks (j+1))∧(∀ {O:Alg} (x:Ags O) (ks:List Nat) (j:Nat),xr x (3::ks) j=.rows (x.L j)::xr x ks (j+1)) ∧
    (∀ (O:Alg) (c:O.C) (j:Nat),cr O c [] j=[])∧(∀ (O:Alg) (c:O.C) (ks:List Nat) (j:Nat),cr O c (0::ks) j=.int (O.cI c j)::cr O c ks (j+1))∧(∀ (O:Alg) (c:O.C) (ks:List Nat) (j:Nat),cr O c (1::ks) j=.bool (O.cB c j)::cr O c ks (j+1)) ∧
    (∀ (O:Alg) (c:O.C) (ks:List Nat) (j:Nat),cr O c (2::ks) j=.str (O.cS c j)::cr O c ks (j+1))∧(∀ (O:Alg) (c:O.C) (ks:List Nat) (j:Nat),cr O c (3::ks) j=.rows (O.cL c j)::cr O c ks (j+1)) ∧
    (∀ (O:Alg) (l:O.L) (i:O.I) (j:Nat),rr O l i [] j=[])∧(∀ (O:Alg) (l:O.L) (i:O.I) (ks:List Nat) (j:Nat),rr O l i (0::ks) j=.int (O.rI l i j)::rr O l i ks (j+1))∧(∀ (O:Alg) (l:O.L) (i:O.I) (ks:List Nat) (j:Nat),rr O l i (1::ks) j=.bool (O.rB l i j)::rr O l i ks (j+1)) ∧
    (∀ (O:Alg) (l:O.L) (i:O.I) (ks:List Nat) (j:Nat),rr O l i (2::ks) j=.str (O.rS l i j)::rr O l i ks (j+1))∧(∀ (O:Alg) (l:O.L) (i:O.I) (ks:List Nat) (j:Nat),rr O l i (3::ks) j=.rows (O.rL l i j)::rr O l i ks (j+1)) ∧
    (kI=[0,0,0,0,0,0,0,0,0,0,0,0,0,0,3,0,3,3,1,3,1,0,0,0,3,0,0,0])∧(kR=[2,0,0,0,0,0,0,0,1,0,0,0,0,3])∧(kM=[2,0,0,0,0,0,0,0,1,0,0,0,0,3,0,0,1,3,0,0,0,0,0]) ∧
    (∀ (O:Alg) (b:List O.Lf),ap O [] b=b)∧(∀ (O:Alg) (x:O.Lf) (a b:List O.Lf),ap O (x::a) b=x::ap O a b) ∧
    (∀ {α:Type} (x:α) (a b:List α),x::a++b=x::(a++b))∧(∀ {α:Type} (b:List α),[]++b=b):=by
  repeat' apply And.intro
  all_goals first | decide | (intros;rfl) | exact ck | exact Vn | exact jj | exact Int.toNat_natCast
theorem PXc : (∀ (b : Bool) (x y : List PV) (j : Nat), pvB (AD (cond b x y) j) = cond b (pvB (AD x j)) (pvB (AD y j))) ∧ (∀ (b : Bool) (x y : List PV) (j : Nat), pvI (AD (cond b x y) j) = cond b (pvI (AD x j)) (pvI (AD y j))) ∧
    (∀ (b:Bool) (x y:List PV) (j:Nat),pvS (AD (cond b x y) j)=cond b (pvS (AD x j)) (pvS (AD y j)))∧(∀ (b:Bool) (x y:List PV) (j:Nat),pvL (AD (cond b x y) j)=cond b (pvL (AD x j)) (pvL (AD y j))):=⟨jN,jf,jZ,jh⟩
theorem PXn:(∀ a b:Bool,(!(a||b))=(!a && !b))∧(∀ a b:Bool,(!(a&&b))=(!a || !b))∧(∀ b p:Bool,cond b false p=(!b&&p))∧(∀ b p:Bool,cond b p true=(!b||p)):=⟨by decide,by decide,iC,jM⟩
end Go.Px
end
section
namespace Go.Px
structure Inn where
 side:Int
 target:Int
 overs:Int
 runs:Int
 wickets:Int
 wides:Int
 noballs:Int
 byes:Int
 legbyes:Int
 pens:Int
 complete:Int
 inover:Int
 striker:Int
 other:Int
 batters:Rows
 bowler:Int
 bowlers:Rows
 before:Rows
 fresh:Bool
 bowled:Rows
 freehit:Bool
 ballage:Int
 keeper:Int
 outside:Int
 subs:Rows
 rev1:Int
 rev2:Int
 ending:Int
structure Rul where
 name:ByteArray
 side:Int
 innings:Int
 overs:Int
 balls:Int
 quota:Int
 wide:Int
 noball:Int
 freehit:Bool
 newball:Int
 followon:Int
 reviews:Int
 outside:Int
 power:Rows
structure Del where
 type:Int
 source:Int
 runs:Int
 short:Int
 boundary:Int
 crossed:Bool
 how:Int
 victim:Int
 fielder:Int
 second:Int
 sub:Bool
 sector:Int
structure Ev where
 kind:Int
 side:Int
 player:Int
 other:Int
 yes:Bool
 runs:Int
 overs:Int
 ball:Del
def Inn.ls (s:Inn):List PV:=[.int s.side,.int s.target,.int s.overs,.int s.runs,.int s.wickets,.int s.wides,.int s.noballs,.int s.byes,.int s.legbyes,.int s.pens,.int s.complete,.int s.inover,.int s.striker,.int s.other,.rows s.batters,.int s.bowler,.rows s.bowlers,.rows s.before,.bool s.fresh,.rows s.bowled,.bool s.freehit,.int s.ballage,.int s.keeper,.int s.outside,.rows s.subs,.int s.rev1,.int s.rev2,.int s.ending]
def Rul.ls (r:Rul):List PV:=[.str r.name,.int r.side,.int r.innings,.int r.overs,.int r.balls,.int r.quota,.int r.wide,.int r.noball,.bool r.freehit,.int r.newball,.int r.followon,.int r.reviews,.int r.outside,.rows r.power]
def Del.ls (d:Del):List PV:=[.int d.type,.int d.source,.int d.runs,.int d.short,.int d.boundary,.bool d.crossed,.int d.how,.int d.victim,.int d.fielder,.int d.second,.bool d.sub,.int d.sector]
def A8 (x:Inn×Int):List PV:=[.int x.1.side,.int x.1.target,.int x.1.overs,.int x.1.runs,.int x.1.wickets,.int x.1.wides,.int x.1.noballs,.int x.1.byes,.int x.1.legbyes,.int x.1.pens,.int x.1.complete,.int x.1.inover,.int x.1.striker,.int x.1.other,.rows x.1.batters,.int x.1.bowler,.rows x.1.bowlers,.rows x.1.before,.bool x.1.fresh,.rows x.1.bowled,.bool x.1.freehit,.int x.1.ballage,.int x.1.keeper,.int x.1.outside,.rows x.1.subs,.int x.1.rev1,.int x.1.rev2,.int x.1.ending,.int x.2]
structure Fit (bt bw bf bd sb:Rows):Prop where
 bt:bt.length≤1048576
 bw:bw.length≤1048576
 bf:bf.length≤1048576
 bd:bd.length≤1048576
 sb:sb.length≤1048576
theorem Fit.bw' {bt bw bf bd sb:Rows} (h:Fit bt bw bf bd sb):bw.length≤1048576:=h.bw
theorem jE {L:Rows} {b:Nat} (h:L.length≤1048576) (hb:b≤4096):iSm (L.length:Int) b=true:=Fj (by omega) hb
abbrev Inn.Fit (s:Inn):Prop:=Px.Fit s.batters s.bowlers s.before s.bowled s.subs
def inR (p:Int) (n:Nat):Bool:=iLe 1 p&&iLe p (n:Int)
theorem JV {p:Int} {n:Nat} (h:inR p n=true) (hn:n≤1048576):iIn (IntKind.i64.wrap (p - 1)) (n:Int)=true:=by
 simp only [inR,iLe,Bool.and_eq_true,decide_eq_true_eq] at h
 rw [Hv (by omega) (by omega)]
 simp only [iIn,decide_eq_true_eq];omega
theorem iW (b:Bool) (x y z:Int):(cond b x y==z)=cond b (x==z) (y==z):=by cases b<;>rfl
theorem ia (b:Bool) (x y:Int):cond b [PV.int x] [PV.int y]=[PV.int (cond b x y)]:=by cases b<;>rfl
theorem JA:((0:Nat):Int)=0:=rfl
theorem Yo:((1:Nat):Int)=1:=rfl
theorem iy:((2:Nat):Int)=2:=rfl
theorem jF:((3:Nat):Int)=3:=rfl
theorem Xm {a b c:Int} (h:(a==b)=true) (hbc:(b==c)=false):(a==c)=false:=by rw [beq_iff_eq.1 h];exact hbc
theorem gY (b x:Bool):cond b b x=(b||x):=by cases b<;>rfl
theorem Inn.eta (s:Inn):Inn.mk s.side s.target s.overs s.runs s.wickets s.wides s.noballs s.byes s.legbyes s.pens s.complete s.inover s.striker s.other s.batters s.bowler s.bowlers s.before s.fresh s.bowled s.freehit s.ballage s.keeper s.outside s.subs s.rev1 s.rev2 s.ending=s:=rfl
theorem Rul.eta (r:Rul):Rul.mk r.name r.side r.innings r.overs r.balls r.quota r.wide r.noball r.freehit r.newball r.followon r.reviews r.outside r.power=r:=rfl
theorem iu {p:Int} {n:Nat} {X Y:Option (List PV)} (hn:n≤1048576):cond (inR p n) (cond (iIn (IntKind.i64.wrap (p - 1)) (n:Int)) X none) Y=cond (inR p n) X Y:=by
 cases h:inR p n with
 | false=>rfl
 | true=>rw [JV h hn];rfl
def ix (p:Int):Nat:=(IntKind.i64.wrap (p - 1)).toNat
def Lb (L:Rows) (p v:Int):Rows:=L.set (ix p) (CF (Ac L (ix p)) 0 [.int v])
def ef (L:Rows) (p:Int) (v:Bool):Rows:=L.set (ix p) (CF (Ac L (ix p)) 0 [.bool v])
theorem Jk (L:Rows) (p v:Int):(Lb L p v).length=L.length:=by simp [Lb]
theorem fJ (L:Rows) (p:Int) (v:Bool):(ef L p v).length=L.length:=by simp [ef]
theorem BK {L:Rows} {b:Nat} (h:L.length≤1048576) (hb:b≤4096):MT b [.rows L]=some [.rows L]:=by
 have h1:=Fj (n:=L.length) (b:=b) (by omega) hb
 have:T4 L.length b=true:=by
  simp only [iSm,decide_eq_true_eq] at h1
  simp only [T4,decide_eq_true_eq]
  have h2:=h1.2.2.1
  rw [← Int.natCast_mul] at h2
  omega
 simp only [MT,this]
def EH (L:Rows):Bool:=BS (fun i => !(atI L i 0==0)) L.length 0
def Hj (L:Rows) (s n:Int):Bool:=EH L&&(s==0||n==0)
def EZ (L:Rows):Nat→Rows
 | 0=>[]
 | i+1=>cond (atI L i 0==0||atI L i 0==3) (EZ L i++[[.int ((i:Int)+1)]]) (EZ L i)
theorem Vf (L:Rows):∀ i,(EZ L i).length≤i
 | 0=>Nat.le_refl _
 | i+1=>by
  have:=Vf L i
  unfold EZ
  cases (atI L i 0==0||atI L i 0==3)
  ·exact Nat.le_succ_of_le this
  ·simp;exact this
theorem hO {v:Int} (h:(v==1)=true):(v==2)=false:=by
 have:=beq_iff_eq.1 h
 rw [beq_eq_false_iff_ne];omega
theorem PXm : (∀ (b : Bool) (x y : List PV), cond b (some x) (some y) = some (cond b x y)) ∧ (∀ {α : Type} (b : Bool) (x : α), cond b x x = x) ∧ (∀ b x : Bool, cond b b x = (b || x)) ∧ (((0 : Nat) : Int) = 0) ∧ (((1 : Nat) : Int) = 1) ∧ (((2 : Nat) : Int) = 2) ∧ (((3 : Nat) : Int) = 3) ∧
    (∀ (b:Bool) (x y:Int),cond b [PV.int x] [PV.int y]=[PV.int (cond b x y)])∧(∀ (b x y:Bool),cond b [PV.bool x] [PV.bool y]=[PV.bool (cond b x y)])∧(∀ {α:Type} (l:List α) (i:Nat) (a:α),(l.set i a).length=l.length) ∧
    (∀ (b:Bool) (x y z:Int),(cond b x y==z)=cond b (x==z) (y==z))∧(∀ x:Int,(x==x)=true)∧(∀ x:Bool,(x==x)=true) ∧
    (∀ s:Inn,s.ls=[.int s.side,.int s.target,.int s.overs,.int s.runs,.int s.wickets,.int s.wides,.int s.noballs,.int s.byes,.int s.legbyes,.int s.pens,.int s.complete,.int s.inover,.int s.striker,.int s.other,.rows s.batters,.int s.bowler,.rows s.bowlers,.rows s.before,.bool s.fresh,.rows s.bowled,.bool s.freehit,.int s.ballage,.int s.keeper,.int s.outside,.rows s.subs,.int s.rev1,.int s.rev2,.int s.ending]) ∧
    (∀ x:Inn×Int,A8 x=[.int x.1.side,.int x.1.target,.int x.1.overs,.int x.1.runs,.int x.1.wickets,.int x.1.wides,.int x.1.noballs,.int x.1.byes,.int x.1.legbyes,.int x.1.pens,.int x.1.complete,.int x.1.inover,.int x.1.striker,.int x.1.other,.rows x.1.batters,.int x.1.bowler,.rows x.1.bowlers,.rows x.1.before,.bool x.1.fresh,.rows x.1.bowled,.bool x.1.freehit,.int x.1.ballage,.int x.1.keeper,.int x.1.outside,.rows x.1.subs,.int x.1.rev1,.int x.1.rev2,.int x.1.ending,.int x.2]) ∧
    (∀ s:Inn,Inn.mk s.side s.target s.overs s.runs s.wickets s.wides s.noballs s.byes s.legbyes s.pens s.complete s.inover s.striker s.other s.batters s.bowler s.bowlers s.before s.fresh s.bowled s.freehit s.ballage s.keeper s.outside s.subs s.rev1 s.rev2 s.ending=s) ∧
    (∀ r:Rul,Rul.mk r.name r.side r.innings r.overs r.balls r.quota r.wide r.noball r.freehit r.newball r.followon r.reviews r.outside r.power=r) :=
  ⟨jD,i5,gY,JA,Yo,iy,jF,ia,iP,fun _ _ _=>List.length_set,iW,fun _=>beq_self_eq_true _,fun _=>beq_self_eq_true _,fun _=>rfl,fun _=>rfl,Inn.eta,Rul.eta⟩
end Go.Px
end
