/- Part 8. -/
import Derived.Test.YtlephafgekoeaaaGreatPart07
import Derived.WalkSpells
import Derived.Lib.Bytealg
import Derived.Lib.Strings
set_option linter.unusedVariables false
set_option linter.unusedSimpArgs false
section
namespace Go.Px
section
variable {E:Env} {N:Nat} {P:Program} {cfg:Cfg} {n0 n0':Nz} {nt:Nat} {β β':Nat→Option Nat} {σ σ':Nat→Option (Nat×Nat)} {s s' s2:St0 E N} {a a':Act} {w w':World}
theorem GG {give:Bool}:∀{ts:List TypeId} {q:Nat} {ls rest:List AQ} {cs:List (AC0 E N)} {h:List (Nat×HEnt (std E N))},Ak (O:=std E N) P give q ts ls=some (cs,h,rest)→Row q h∧∀n∈AH cs,q≤n∧n<q+h.length
 | [],q,ls,rest,cs,h,he=>by
  simp only[Ak]at he;cases he;exact⟨trivial,fun n hn=>by simp[AH]at hn⟩
 |t::ts,q,[],rest,cs,h,he=>by simp only[Ak]at he;cases he
 |t::ts,q,l::ls,rest,cs,h,he=>by
  simp only[Ak]at he
  split at he
  ·obtain⟨⟨cs1,h1,r1⟩,e1,e2⟩:=zzo.1 he;cases e2;obtain⟨a1,a2⟩:=GG e1;exact⟨a1,fun n hn=>a2 n (by simpa[AH,AC.names] using hn)⟩
  ·obtain⟨⟨cs1,h1,r1⟩,e1,e2⟩:=zzo.1 he;cases e2;obtain⟨a1,a2⟩:=GG e1;exact⟨a1,fun n hn=>a2 n (by simpa[AH,AC.names] using hn)⟩
  ·obtain⟨⟨cs1,h1,r1⟩,e1,e2⟩:=zzo.1 he;cases e2;obtain⟨a1,a2⟩:=GG e1;exact⟨a1,fun n hn=>a2 n (by simpa[AH,AC.names] using hn)⟩
  ·obtain⟨⟨cs1,h1,r1⟩,e1,e2⟩:=zzo.1 he;cases e2;obtain⟨a1,a2⟩:=GG e1;exact⟨a1,fun n hn=>a2 n (by simpa[AH,AC.names] using hn)⟩
  ·cases give
   ·obtain⟨⟨cs1,h1,r1⟩,e1,e2⟩:=zzo.1 he;cases e2;obtain⟨a1,a2⟩:=GG e1;exact⟨a1,fun n hn=>a2 n (by simpa[AH,AC.names] using hn)⟩
   obtain⟨⟨cs1,h1,r1⟩,e1,e2⟩:=zzo.1 he;cases e2;obtain⟨a1,a2⟩:=GG e1;refine⟨⟨rfl,a1⟩,fun n hn=>?_⟩;simp only[AH,AC.names,List.cons_append,List.nil_append,List.mem_cons]at hn;simp only[List.length_cons]
   rcases hn with rfl|hn
   ·omega
   have:=a2 n hn;omega
  cases he
theorem ZI:∀{ts:List TypeId} {ls r:List AQ} {caps:List (Cap (std E N))},Fx (O:=std E N) ts ls=some (caps,r)→Iu caps=[]
 | [],ls,r,caps,h=>by simp only[Fx]at h;cases h;rfl
 |t::ts,[],r,caps,h=>by simp[Fx]at h
 |t::ts,l::ls,r,caps,h=>by
  cases l<;>simp only[Fx]at h<;>first|cases h|skip
  obtain⟨⟨c1,r1⟩,e1,e2⟩:=zzo.1 h;cases e2;show Iu c1=[];exact ZI e1
theorem WB:∀{ts:List TypeId} {gv:List Bool} {q:Nat} {fns:List Nat} {ls:List AQ} {vs:List (AV (std E N))} {hs:List (Nat×HEnt (std E N))},BS (O:=std E N) P gv q ts fns ls=some (vs,hs)→Row q hs∧∀v∈vs,∀n∈v.names,q≤n∧n<q+hs.length
 | [],gv,q,fns,ls,vs,hs,h=>by
  unfold BS at h
  split at h
  ·cases h;exact⟨trivial,fun v hv=>by simp at hv⟩
  ·rename_i hx;cases hx
  cases h
 |t::ts,gv,q,fns,ls,vs,hs,h=>by
  unfold BS at h
  split at h
  ·split at h
   ·split at h
    ·split at h
     ·rename_i caps _ hca;obtain⟨⟨r,h1⟩,e1,e2⟩:=zzo.1 h;cases e2;obtain⟨a1,a2⟩:=WB e1;refine⟨a1,fun v hv n hn=>?_⟩
      rcases List.mem_cons.1 hv with rfl|hv
      ·simp[AV.names,one,AH,AC.names,ZI hca]at hn
      exact a2 v hv n hn
     cases h
    cases h
   cases h
  split at h
  ·cases h
  rename_i l hl
  split at h
  ·cases h
  rename_i cs h1 ls1 hc;obtain⟨⟨r,h2⟩,e1,e2⟩:=zzo.1 h;cases e2;obtain⟨a1,a2⟩:=GG hc;obtain⟨b1,b2⟩:=WB e1;refine⟨a1.append b1,fun v hv n hn=>?_⟩;rw[List.length_append]
  rcases List.mem_cons.1 hv with rfl|hv
  ·have:=a2 n hn;omega
  have:=b2 v hv n hn;omega
def CD (P:Program) (own:Nat→Bool) (nw:Bool) (t:TypeId):SlotC:=match AK P t with
 | .int k=>.int k
 | .bool=>.bool
 | .str=>.str
 | .sl e=>match own e with
  |true=>.own e nw
  |false=>.imm e nw
 | .opq=>.opq nw
 |_=>.bool
theorem tg (m:Mem P n0 β σ s w) {own own':Nat→Bool} {nw:Bool} (ho:∀ e,own' e=true→own e=true):∀ {ts:List TypeId} {cs:List (AC0 E N)} {vals:List Value} {used usedE:List Nat} {ls:List AQ},EC (O:=std E N) s own nw used cs=.ok ls→AX P ts cs=true→RelCs P n0 β σ s w cs vals→(∀ n∈usedE,n∈used∧∀ h,s.getH n=some h→h.frozen=false) →
    ∃u,H1 (O:=std E N) s [] usedE (ts.map (CD P own' nw)) cs=.ok (ls,u)
  | [],[],vals,used,usedE,ls,h,_,_,_=>by
    simp only[EC]at h;cases h;exact⟨usedE,rfl⟩
  |t::ts,c::cs,v::vals,used,usedE,ls,h,hk,hr,hu=>by
    simp only[AX]at hk
    split at hk
    case h_2=>cases hk
    rename_i hk1;have goOk:∀{l:AQ} {u:List Nat},Qo l (EC (O:=std E N) s own nw u cs)=.ok ls→∃ls2,EC (O:=std E N) s own nw u cs=.ok ls2∧ls=l::ls2:=fun {l u} h=>by
      cases hx:EC (O:=std E N) s own nw u cs with
      |ok ls2=>rw[hx]at h;simp only[Qo]at h;cases h;exact⟨ls2,rfl,rfl⟩
      |error e=>rw[hx]at h;simp only[Qo]at h;cases h
    have fin:∀{l:AQ} {u uE:List Nat} {ls2:List AQ},Iy (O:=std E N) s [] usedE (CD P own' nw t) c=.ok (l,uE)→EC (O:=std E N) s own nw u cs=.ok ls2→ls=l::ls2→(∀n∈uE,n∈u∧∀h,s.getH n=some h→h.frozen=false)→∃u,H1 (O:=std E N) s [] usedE ((t::ts).map (CD P own' nw)) (c::cs)=.ok (ls,u):=fun {l u uE ls2} h1 h2 h3 h4=>by
      obtain⟨u2,h5⟩:=tg m ho h2 hk hr.2 h4;refine⟨u2,?_⟩;simp only[List.map_cons,H1,h1,h5,h3]
    cases c with
    |int k i =>
      simp only[EC]at h;obtain⟨ls2,h2,h3⟩:=goOk h;cases hl:AK P t<;>rw[hl]at hk1<;>simp[BJ]at hk1;refine fin (l:=.int i) (uE:=usedE) ?_ h2 h3 hu;simp[CD,hl,Iy,hk1]
    |bool b =>
      simp only[EC]at h;obtain⟨ls2,h2,h3⟩:=goOk h;cases hl:AK P t<;>rw[hl]at hk1<;>simp[BJ]at hk1;refine fin (l:=.bool b) (uE:=usedE) ?_ h2 h3 hu;simp[CD,hl,Iy]
    |str x =>
      simp only[EC]at h;obtain⟨ls2,h2,h3⟩:=goOk h;cases hl:AK P t<;>rw[hl]at hk1<;>simp[BJ]at hk1;refine fin (l:=.str x) (uE:=usedE) ?_ h2 h3 hu;simp[CD,hl,Iy]
    |nil e =>
      simp only[EC]at h;obtain⟨ls2,h2,h3⟩:=goOk h;cases hl:AK P t<;>rw[hl]at hk1<;>simp[BJ]at hk1;subst hk1;refine fin (l:=.rows []) (uE:=usedE) ?_ h2 h3 hu;simp only[CD,hl]
      split<;>simp[Iy]
    |opq n i =>
      simp only[EC]at h
      split at h
      case h_2=>cases h
      rename_i hg;obtain⟨ls2,h2,h3⟩:=goOk h;cases hl:AK P t<;>rw[hl]at hk1<;>simp[BJ]at hk1;refine fin (l:=.int i) (uE:=usedE) ?_ h2 h3 hu;simp only[CD,hl,Iy,hg]
    |imm e n l =>
      simp only[EC]at h
      split at h
      case h_2=>cases h
      rename_i hg;obtain⟨ls2,h2,h3⟩:=goOk h;have hl:AK P t=.sl e:=by
        cases hl:AK P t<;>rw[hl]at hk1<;>simp[BJ]at hk1;rw[hk1]
      have hown:own' e=false:=by
        cases ho':own' e
        · rfl
        have:=ho e ho';rw[this]at hg;simp at hg
      refine fin (l:=.rows l) (uE:=usedE) ?_ h2 h3 hu;have hg2:(n || !nw)=true:=by simp only[zzj]at hg;exact hg.2
      simp[CD,hl,Iy,hg2,hown]
    |own e id =>
      simp only[EC]at h;cases hh:s.getH id with
      |none=>rw[hh]at h;cases h
      |some en =>
        rw[hh]at h;simp only at h
        split at h
        case h_2=>cases h
        rename_i hg;obtain⟨ls2,h2,h3⟩:=goOk h;simp only[zzj,Bool.not_eq_true']at hg;obtain⟨⟨g1,g2⟩,g3⟩:=hg;have hl:AK P t=.sl e:=by
          cases hl:AK P t<;>rw[hl]at hk1<;>simp[BJ]at hk1;rw[hk1]
        have he:=(hr.1.2 en hh).1;have hm:CT id usedE=false:=by
          cases hx:CT id usedE
          · rfl
          obtain⟨u1,u2⟩:=hu id (Cd.1 hx);have u3:=Cd.2 u1;have u4:=u2 en hh;rw[u3,u4]at g2;cases g2
        cases ho':own' e
        · refine fin (l:=.rows en.l) (uE:=match en.frozen with | true=>usedE | false=>id::usedE) ?_ h2 h3 (fun n hn=>by
            cases hz:en.frozen with
            |true=>rw[hz]at hn;exact⟨zzm _ (hu n hn).1,(hu n hn).2⟩
            |false =>
              rw[hz]at hn
              rcases List.mem_cons.1 hn with rfl|hn
              · exact⟨zzl,fun h' hh'=>by rw[hh]at hh';cases hh';exact hz⟩
              exact⟨zzm _ (hu n hn).1,(hu n hn).2⟩)
          simp[CD,hl,Iy,hh,he,hm,CT,g3,ho'];cases en.frozen<;>rfl
        have hoe:=ho e ho';have g1':en.frozen=false:=by simpa[hoe] using g1
        refine fin (l:=.rows en.l) (uE:=id::usedE) ?_ h2 h3 (fun n hn=>by
          rcases List.mem_cons.1 hn with rfl|hn
          · exact⟨zzl,fun h' hh'=>by rw[hh]at hh';cases hh';exact g1'⟩
          exact⟨zzm _ (hu n hn).1,(hu n hn).2⟩)
        simp[CD,hl,Iy,hh,he,g1',hm,CT,g3,ho']
    |_=>simp only[EC]at h;cases h
  | [],_::_,_,_,_,_,_,hk,_,_=>by simp[AX]at hk
  |_::_,[],_,_,_,_,_,hk,_,_=>by simp[AX]at hk
  |_,_::_,[],_,_,_,_,_,hr,_=>hr.elim
theorem UL (cv:List PV):∀(x y:List SlotC) (j q:Nat),AP E N cv j q (x++y)=((AP E N cv j q x).1++(AP E N cv (j+x.length) (q+(AP E N cv j q x).2.length) y).1,(AP E N cv j q x).2++(AP E N cv (j+x.length) (q+(AP E N cv j q x).2.length) y).2)
 | [],y,j,q=>rfl
 |c::x,y,j,q=>by
  have e:∀z,AP E N cv j q (c::z)=((DB E N cv j q c).1::(AP E N cv (j+1) (q+(DB E N cv j q c).2.length) z).1,(DB E N cv j q c).2++(AP E N cv (j+1) (q+(DB E N cv j q c).2.length) z).2):=fun z=>rfl
  rw[List.cons_append,e,e,UL cv x y];simp only[List.cons_append,List.length_cons,List.length_append,List.append_assoc];rw[show j+1+x.length=j+(x.length+1) by omega,Nat.add_assoc]
theorem dJ {own:Nat→Bool} {nw:Bool} {cv:List PV}:∀{ts:List TypeId} {cs:List (AC0 E N)} {j q:Nat},AX P ts cs=true→A0 (O:=std E N) P own nw cv j q ts=some (AP E N cv j q (ts.map (CD P own nw)))
 | [],[],j,q,_=>rfl
 |t::ts,c::cs,j,q,h=>by
  simp only[AX]at h
  split at h
  case h_2=>cases h
  rename_i hk;have ih:=fun j q=>dJ (own:=own) (nw:=nw) (cv:=cv) (j:=j) (q:=q) h
  cases hl:AK P t<;>rw[hl]at hk<;>(try (cases c<;>simp[BJ]at hk;done))
  ·simp only[A0,hl,ih];simp[AP,L3,UA,CD,hl]
  ·simp only[A0,hl,ih];simp[AP,L3,UA,CD,hl]
  ·simp only[A0,hl,ih];simp[AP,L3,UA,CD,hl]
  ·rename_i e;cases ho':own e
   ·simp only[A0,hl,ih,ho'];simp[AP,L3,UA,CD,hl,ho']
   simp only[A0,hl,ih,ho'];simp[AP,L3,UA,CD,hl,ho']
  simp only[A0,hl,ih];simp[AP,L3,UA,CD,hl]
 | [],_::_,_,_,h=>by simp[AX]at h
 |_::_,[],_,_,h=>by simp[AX]at h
theorem nA {cv:List PV}:∀{x:List SlotC} {j q:Nat},(AP E N cv j q x).1.length=x.length
 | [],j,q=>rfl
 |c::x,j,q=>by
  have e:AP E N cv j q (c::x)=((DB E N cv j q c).1::(AP E N cv (j+1) (q+(DB E N cv j q c).2.length) x).1,(DB E N cv j q c).2++(AP E N cv (j+1) (q+(DB E N cv j q c).2.length) x).2):=rfl;rw[e];simp[nA (x:=x)]
theorem dg {own:Nat→Bool} {nw:Bool} {cv:List PV}:∀ {ts:List TypeId} {vs:List (Val (std E N))} {j q:Nat},Om P ts vs=true→∃ (l:List TypeId) (vs':List (Val (std E N))),LL P ts=some l∧AX P l ((vs.map (·.cs)).flatten)=true ∧
    Br (O:=std E N) P own nw cv j q ts=some (vs',(AP E N cv j q (l.map (CD P own nw))).2)∧Il P ts (AP E N cv j q (l.map (CD P own nw))).1=some vs'
  | [],[],j,q,_=>⟨[],[],rfl,rfl,rfl,rfl⟩
  |t::ts,v::vs,j,q,h=>by
    simp only[Om,zzj]at h;cases hl:AW P t with
    |none=>rw[hl]at h;simp at h
    |some l =>
      rw[hl]at h;simp only[zzj,beq_iff_eq]at h;obtain⟨l2,vs',h1,h2,h3,h4⟩:=dg (own:=own) (nw:=nw) (cv:=cv) (j:=j+l.length) (q:=q+(AP E N cv j q (l.map (CD P own nw))).2.length) h.2;have hb:=dJ (own:=own) (nw:=nw) (cv:=cv) (j:=j) (q:=q) h.1.2;refine⟨l++l2,{ agg:=Ag P t,cs:=(AP E N cv j q (l.map (CD P own nw))).1 }::vs',by simp[LL,hl,h1],?_,?_,?_⟩
      · have:∀ {a b:List TypeId} {x y:List (AC0 E N)},AX P a x=true→AX P b y=true→AX P (a++b) (x++y)=true:=fun {a b x y} hx hy=>by
          induction a generalizing x with
          |nil=>cases x with
            |nil=>exact hy
            |cons _ _=>simp[AX]at hx
          |cons t a ih=>cases x with
            |nil=>simp[AX]at hx
            |cons c x =>
              simp only[AX]at hx
              split at hx
              · rename_i hk;simp only[List.cons_append,AX,hk];exact ih hx
              cases hx
        exact this h.1.2 h2
      · simp only[Br,hl];rw[hb,List.map_append,UL,List.length_map];simp only[h3]
      simp only[Il,hl];rw[List.map_append,UL,List.length_map];have hlen:(AP E N cv j q (l.map (CD P own nw))).1.length=l.length:=by rw[nA,List.length_map]
      simp only;rw[←hlen,List.drop_left,List.take_left,hlen,h4]
  | [],_::_,_,_,h=>by simp[Om]at h
  |_::_,[],_,_,h=>by simp[Om]at h
theorem pg {cv:List PV} {S S2:St0 E N} (hH:∀n,S2.getH n=S.getH n) (hst:∀nw b,StB n0 β σ S nw b→StB n0 noB σ S2 nw b):∀{x:List SlotC} {j q:Nat} {vals:List Value},RelCs P n0 β σ S w (AP E N cv j q x).1 vals→RelCs P n0 noB σ S2 w (AP E N cv j q x).1 vals
 | [],j,q,[],h=>trivial
 | [],j,q,_::_,h=>h.elim
 |c::x,j,q,[],h=>h.elim
 |c::x,j,q,v::vals,h=>by
  have e:AP E N cv j q (c::x)=((DB E N cv j q c).1::(AP E N cv (j+1) (q+(DB E N cv j q c).2.length) x).1,(DB E N cv j q c).2++(AP E N cv (j+1) (q+(DB E N cv j q c).2.length) x).2):=rfl;rw[e]at h⊢;refine⟨?_,pg hH hst h.2⟩;have h1:=h.1;cases c with
  |int k=>exact h1
  |bool=>exact h1
  |str=>exact h1
  |any T=>exact h1
  |opq nw=>obtain⟨t,ht,hr⟩:=h1;exact⟨t,ht,hr.st (hst nw)⟩
  |own e nw =>
   obtain⟨h2,h3⟩:=h1;exact⟨h2,fun en hen=>h3 en (by rw[←hH];exact hen)⟩
  |imm e nw=>obtain⟨t,ht,hr⟩:=h1;exact⟨t,ht,hr.st (hst nw)⟩
theorem tq {own:Nat→Bool} {n:Nat}:∀{l:List (Nat×HEnt (std E N))} {h':HEnt (std E N)},AL (l.map fun (n,h)=>(n,{ h with frozen:=h.frozen || !own h.e })) n=some h'→∃h,AL l n=some h∧h'={ h with frozen:=h.frozen || !own h.e }
 | [],h',h=>by cases h
 |(j,a)::l,h',h=>by
  show∃h,(match Nat.beq j n with|true=>some a|false=>AL l n)=some h∧_;change(match Nat.beq j n with|true=>some { a with frozen:=a.frozen || !own a.e } | false=>AL (l.map fun (n,h)=>(n,{ h with frozen:=h.frozen || !own h.e })) n)=some h' at h;cases hb:Nat.beq j n
  ·rw[hb]at h;exact tq h
  rw[hb]at h;exact⟨a,rfl,(Option.some.inj h).symm⟩
theorem Sub.frz (s:St0 E N) (own:Nat→Bool):Sub s (wP own s) :=
  ⟨fun n e h=>⟨e,h,rfl⟩,fun n h' h=>by
      obtain⟨h0,a,b⟩:=tq h;exact⟨h0,a,by rw[b],by rw[b],by rw[b],fun hf=>by rw[b]at hf;simp only[Bool.or_eq_false_iff]at hf;exact hf.1⟩⟩
theorem zl (hn9:n0.n=w.heap.size) {own:Nat→Bool} {ci:CI} (ho:∀ e,ci.ow e=true→own e=true) {rs:List PV} {fn:Func} {hs:List (Nat×HEnt (std E N))} {ex:Ex} (hsim:Sim P n0 nt β' σ' s' a' w') (hdef:a'.defers=[])
    (x1:Ext P n0 (fun _=>True) noB σ (Ab hs) w β' σ' s' w') (hk:wG (O:=std E N) P own ci.nw fn ex s'=some rs):bodyPost P fn (Ret (E:=E) (N:=N) P ci n0 σ (Ab hs) w fn rs) (gj ex) a' w':=by
  unfold wG at hk
  split at hk
  · cases hk
  · cases hk
  rename_i vs' hex hvs
  split at hk
  case h_2=>cases hk
  case h_3=>cases hk
  rename_i ls' hres hout;have hrs:rs=ls'.map Leaf.pv:=(Option.some.inj hk).symm;obtain⟨z,zs,r1,r2,r3⟩:=Yg hsim hvs;have hfin:Ret (E:=E) (N:=N) P ci n0 σ (Ab hs) w fn rs (.returned z) w':=by
    refine⟨x1.os,x1.tape,x1.output,x1.size,fun b hb hm=>(x1.frame b hb hm).elim id (fun h=>by have:=h.1;omega),fun q=>?_⟩;obtain⟨l,vs2,b1,b2,b3,b4⟩:=dg (own:=ci.ow) (nw:=ci.nw) (cv:=rs) (j:=0) (q:=q) hres;obtain⟨u,henc⟩:=tg hsim.M ho (usedE:=[]) hout b2 r2.flat (fun n hn=>by simp at hn);have hj:=zy (s:=s') (a:=a') (w:=w') (L:=q) (base:={ tm:=.e,bx:=[],hp:=[],st:=q }) hsim
      (fun n tv hn=>by
        have hn:DR (.e:TM (TV (std E N))) n=some tv:=hn;rw[Wf]at hn;cases hn)
      (fun n e he=>by cases he) (fun n e he=>by cases he)
      (rs:=l.map (CD P ci.ow ci.nw)) r2.flat (sl:=[]) (fun b c hm=>by simp at hm) henc (ls2:=[]) rfl (cv:=rs) (j:=0) (by rw[hrs,List.append_nil];exact Rd (pre:=[]))
    obtain⟨σ2,S,hS,j1,j2,j3⟩:=hj;have hSH:∀n,S.getH n=AL (AP E N rs 0 q (l.map (CD P ci.ow ci.nw))).2 n:=fun n=>by
      rw[hS];show AL (_++[]) n=_;rw[List.append_nil]
    have hSB:∀n,S.getB n=none:=fun n=>by rw[hS];rfl
    generalize hD:(AP E N rs 0 q (l.map (CD P ci.ow ci.nw))).2=D at *
    have hH2:∀n,(Ab D).getH n=S.getH n:=fun n=>(hSH n).symm
    have inM:∀b,InM noB σ2 (Ab D) b→InM β' σ2 S b:=fun b hb=>by
      rcases hb with⟨n,e,h1,_⟩|⟨n,h,cap,h1,h2,h3⟩
      · cases h1
      exact .inr ⟨n,h,cap,by rw[←hH2];exact h1,h2,h3⟩
    have hst:∀nw b,StB n0 β' σ2 S nw b→StB n0 noB σ2 (Ab D) nw b:=fun nw b hb=>⟨fun hm=>hb.1 (inM _ hm),hb.2⟩
    refine⟨σ2,vs2,D,b3,⟨fun n e he=>(by cases he),fun n h hh=>?_,fun b b' e e' blk he=>(by cases he),fun n n' h h' blk cap cap' hh hh'=>?_,fun b e n h blk cap he=>(by cases he)⟩,?_,fun b hb=>?_⟩
    · rw[hH2]at hh;exact(j3.sim.M.H n h hh).view rfl rfl rfl (fun _ _ _ ho=>ho) (fun b hb _=>hst _ b hb)
    · rw[hH2]at hh hh';exact j3.sim.M.uH n n' h h' blk cap cap' hh hh'
    · have j1':=pg (S2:=Ab D) hH2 hst j1;exact eJ (UR hres r2 j1' b4).1 r3
    rcases j3.ext.mem b (inM b hb)with h|h
    · exact x1.mem b h
    exact .inr (Nat.le_trans x1.size h)
  cases ex with
  |nrm=>exact⟨hdef,z,r1,hfin⟩
  |ret=>exact⟨hdef,z,r1,hfin⟩
  |ext id=>simp[Uz]at hex
theorem pd (hn9:n0.n=w.heap.size) {own:Nat→Bool} {ci:CI} (ho:∀ e,ci.ow e=true→own e=true) {rs:List PV} {fn:Func} {hs:List (Nat×HEnt (std E N))} {ex:Ex} (hsim:Sim P n0 nt β' σ' s' a' w') (hdef:a'.defers=[])
    (x1:Ext P n0 (fun _=>True) noB σ (Ab hs) w β' σ' s' w') (hk:kS (O:=std E N) P own ci.nw fn ex s'=some rs):bodyPost P fn (Ret (E:=E) (N:=N) P ci n0 σ (Ab hs) w fn rs) (gj ex) a' w':=by
  have sb:=Sub.frz s' own;have xb:=sb.ext P n0 (fun _=>False) β' σ' w';refine zl hn9 ho (s':=wP own s') ⟨hsim.n0le,hsim.size,fun n tv hn=>?_,sb.mem hsim.M,hsim.kept.ext xb⟩ hdef ((x1.trans xb).weaken fun _ _=>trivial) hk;have hn':s'.getT n=some tv:=hn
  rcases hsim.T n tv hn' with⟨h1,h2⟩|h1
  · exact .inl ⟨h1,xb.relAV (fun _ _ h=>h) h2⟩
  exact .inr h1
theorem zb (hmix:P.follows .mixedOrders=true) (hΓ:GamOK P E N cfg) {own:Nat→Bool} {ci:CI} (ho:∀ e,ci.ow e=true→own e=true) {ls rs:List PV}
    (h:XF (O:=std E N) P cfg own ci.nw ci.gives ci.f ci.fns (ls.map PV.leaf)=some rs) {fn:Func} (hfn:P.funcs[ci.f]?=some fn) {vs:List (AV (std E N))} {hs:List (Nat×HEnt (std E N))} (hv:BS (O:=std E N) P ci.gives 1 fn.params.toList ci.fns (ls.map PV.leaf)=some (vs,hs))
    (hn0:n0.n=w.heap.size) (m:Mem P n0 noB σ (Ab hs) w) (hkp:Kept P n0 noB σ (Ab hs) w) {args:List Value} (hr:RelArgs P n0 noB σ (Ab hs) w vs args):Calls P ci.f args.toArray w (Ret (E:=E) (N:=N) P ci n0 σ (Ab hs) w fn rs):=by
  unfold XF at h;rw[hfn]at h;simp only at h
  split at h
  · rename_i body vs' hs' hb hv';rw[hv]at hv';cases hv'
    split at h
    · cases h
    rename_i htm;obtain⟨row,hnames⟩:=WB hv
    let sx:St0 E N:={ tm:=.e,bx:=[],hp:=hs,st:=1+hs.length }
    have subx:Sub (Ab hs) sx:=Sub.of_same (fun _=>rfl) (fun _=>rfl);have mx:Mem P n0 noB σ sx w:=subx.mem m;have hrx:RelArgs P n0 noB σ sx w vs args:=(subx.ext P n0 (fun _=>False) noB σ w).relArgs hr;have hfx:∀n,sx.st≤n→Mh sx n:=fun n hn=>⟨fun k e he=>(by cases he),fun k e he=>(by
      have:=row.mem _ (row.get he);have hn:1+hs.length≤n:=hn;simp at this;omega)⟩
    refine calls_of_wp hfn hb ?_;have hs1:=zu (s:=sx) (nt:=fn.ntmps) (Nat.le_of_eq hn0) mx (hkp.ext (subx.ext P n0 (fun _=>False) noB σ w)) hrx;have wf1:=wf0 (s:=sx) hfx (args:=vs) (fun x hx n hn=>(hnames x hx n hn).2);have htm':=Qj (aN (nt:=fn.ntmps) (vals:=args)) htm;have subs1:Sub sx ({ sx with tm:=B5 0 vs .e }:St0 E N):=Sub.of_same (fun _=>rfl) (fun _=>rfl);refine oG hmix hΓ 6 n0 _ body htm' _ _ _ _ rs noB σ (GL fn.ntmps args) w _ h hs1 wf1 (fun ex s' β' σ' a' w' hk mm hmm hp wf' hle=>?_);have x1:Ext P n0 (fun _=>True) noB σ (Ab hs) w β' σ' s' w':=(((subx.ext P n0 (fun _=>False) noB σ w).trans (subs1.ext P n0 (fun _=>False) noB σ w)).trans hp.ext).weaken (fun _ _=>trivial);exact pd hn0 ho hp.sim hp.defers x1 hk
  · cases h
  cases h
end
section
variable {E E':Env} {N N':Nat} {P:Program} {n0:Nz} {σ:Nat→Option (Nat×Nat)} {w:World}
def Cap.re:Cap (std E N)→Cap (std E' N')
 | .box b off=>.box b off
 | .row e l=>.row e l
def AC.re:AC (std E N)→AC (std E' N')
 | .int k i=>.int k i
 | .bool b=>.bool b
 | .str s=>.str s
 | .nil e=>.nil e
 | .imm e nw l=>.imm e nw l
 | .own e id=>.own e id
 | .ptr b off=>.ptr b off
 | .aptr b off n sz i inner=>.aptr b off n sz i inner
 | .eptr id i off=>.eptr id i off
 | .iptr e nw l i off=>.iptr e nw l i off
 | .fn f caps=>.fn f (caps.map Cap.re)
 | .nilptr=>.nilptr
 | .tail e id i=>.tail e id i
 | .mp e id=>.mp e id
 | .any T=>.any T
 | .opq nw n=>.opq nw n
def Val.re (v:Val (std E N)):Val (std E' N'):={ agg:=v.agg,cs:=v.cs.map AC.re }
def AV.re:AV (std E N)→AV (std E' N')
 | .val v=>.val v.re
 | .tup vs=>.tup (vs.map Val.re)
def HEnt.re (h:HEnt (std E N)):HEnt (std E' N'):={ e:=h.e,frozen:=h.frozen,nw:=h.nw,l:=h.l,dirty:=h.dirty }
def reH (hs:List (Nat×HEnt (std E N))):List (Nat×HEnt (std E' N')):=hs.map fun (n,h)=>(n,h.re)
variable {hs:List (Nat×HEnt (std E N))}
theorem tY (n:Nat):(Ab (reH hs:List (Nat×HEnt (std E' N')))).getH n=((Ab hs).getH n).map HEnt.re:=VP HEnt.re hs n
theorem Ec {n:Nat} {h':HEnt (std E' N')} (h:(Ab (reH hs:List (Nat×HEnt (std E' N')))).getH n=some h'):∃h0,(Ab hs).getH n=some h0∧h'=h0.re:=by
 rw[tY]at h;obtain⟨h0,h1,h2⟩:=zzo.1 h;exact⟨h0,h1,h2.symm⟩
theorem bJ {b:Nat}:InM noB σ (Ab (reH hs:List (Nat×HEnt (std E' N')))) b↔InM noB σ (Ab hs) b:=by
 constructor
 ·rintro(⟨n,e,h,_⟩|⟨n,h,cap,h1,h2,h3⟩)
  ·cases h
  obtain⟨h0,h4,rfl⟩:=Ec h1;exact .inr ⟨n,h0,cap,h4,h2,h3⟩
 rintro(⟨n,e,h,_⟩|⟨n,h,cap,h1,h2,h3⟩)
 ·cases h
 exact .inr ⟨n,h.re,cap,by rw[tY,h1];rfl,h2,h3⟩
theorem aK {nw:Bool} {b:Blk} (h:StB n0 noB σ (Ab hs) nw b):StB n0 noB σ (Ab (reH hs:List (Nat×HEnt (std E' N')))) nw b:=⟨fun hm=>h.1 (bJ.1 hm),h.2⟩
theorem RelC.re {c:AC (std E N)} {v:Value} (h:RelC P n0 noB σ (Ab hs) w c v):RelC P n0 noB σ (Ab (reH hs:List (Nat×HEnt (std E' N')))) w c.re v:=by
 cases c with
 |int k i=>exact h
 |bool b=>exact h
 |str s=>exact h
 |nil e=>exact h
 |nilptr=>exact h
 |imm e nw l=>obtain⟨t,ht,hr⟩:=h;exact⟨t,ht,hr.st (fun b hb=>aK hb)⟩
 |own e id =>
  obtain⟨h1,h2⟩:=h;refine⟨h1,fun h' hh=>?_⟩;obtain⟨h0,h3,rfl⟩:=Ec hh;exact h2 h0 h3
 |ptr b off=>obtain⟨blk,h1,h2⟩:=h;exact⟨blk,h1,fun e he=>by cases he⟩
 |aptr b off n sz i inner=>obtain⟨h0,h1,blk,h2,h3⟩:=h;exact⟨h0,h1,blk,h2,fun e he=>by cases he⟩
 |eptr id i off =>
  obtain⟨h0,blk,o,hv,hk⟩:=h;refine⟨h0,blk,o,hv,fun h' hh=>?_⟩;obtain⟨h1,h3,rfl⟩:=Ec hh;exact hk h1 h3
 |iptr e nw l i off =>
  obtain⟨h0,h1,t,ts,blk,boff,len,cap,ht,hts,hr,hv⟩:=h;exact⟨h0,h1,t,ts,blk,boff,len,cap,ht,hts,hr.st (fun b hb=>aK hb),hv⟩
 |fn f caps =>
  obtain⟨vs,hv,hl,hp⟩:=h;refine⟨vs,hv,by rw[List.length_map];exact hl,fun i c' hc=>?_⟩;rw[List.getElem?_map]at hc;obtain⟨c,hc2,rfl⟩:=zzo.1 hc;obtain⟨y,hy,hr⟩:=hp i c hc2;cases c with
  |box b o =>
   obtain⟨blk,h2,h3⟩:=hr;exact⟨y,hy,blk,h2,fun e he=>by cases he⟩
  |row e l =>
   obtain⟨h1,t,ts,blk,boff,len,cap,ht,hts,hr,hv⟩:=hr;exact⟨y,hy,h1,t,ts,blk,boff,len,cap,ht,hts,hr.st (fun b hb=>aK hb),hv⟩
 |tail e id i =>
  obtain⟨h0,hv,hk⟩:=h;refine⟨h0,hv,fun h' hh=>?_⟩;obtain⟨h1,h3,rfl⟩:=Ec hh;exact hk h1 h3
 |any T=>exact h
 |opq nw n=>obtain⟨t,ht,hr⟩:=h;exact⟨t,ht,hr.st (fun b hb=>aK hb)⟩
 |mp e id =>
  obtain⟨hv,hk⟩:=h;refine⟨hv,fun h' hh=>?_⟩;obtain⟨h1,h3,rfl⟩:=Ec hh;exact hk h1 h3
theorem RelCs.re:∀{cs:List (AC (std E N))} {vs:List Value},RelCs P n0 noB σ (Ab hs) w cs vs→RelCs P n0 noB σ (Ab (reH hs:List (Nat×HEnt (std E' N')))) w (cs.map AC.re) vs
 | [],[],_=>trivial
 |c::cs,v::vs,h=>⟨h.1.re,RelCs.re h.2⟩
 | [],_::_,h=>h.elim
 |_::_,[],h=>h.elim
theorem RelVal.re {x:Val (std E N)} {v:Value} (h:RelVal P n0 noB σ (Ab hs) w x v):RelVal P n0 noB σ (Ab (reH hs:List (Nat×HEnt (std E' N')))) w x.re v:=⟨RelCs.re h.1,h.2⟩
theorem RelVals.re:∀{cs:List (Val (std E N))} {vs:List Value},RelVals P n0 noB σ (Ab hs) w cs vs→RelVals P n0 noB σ (Ab (reH hs:List (Nat×HEnt (std E' N')))) w (cs.map Val.re) vs
 | [],[],_=>trivial
 |c::cs,v::vs,h=>⟨h.1.re,RelVals.re h.2⟩
 | [],_::_,h=>h.elim
 |_::_,[],h=>h.elim
theorem RelAV.re {x:AV (std E N)} {v:Value} (h:RelAV P n0 noB σ (Ab hs) w x v):RelAV P n0 noB σ (Ab (reH hs:List (Nat×HEnt (std E' N')))) w x.re v:=by
 cases x with
 |val x=>exact RelVal.re (x:=x) h
 |tup xs=>obtain⟨vs,h1,h2⟩:=h;exact⟨vs,h1,h2.re⟩
theorem RelArgs.re:∀{xs:List (AV (std E N))} {vs:List Value},RelArgs P n0 noB σ (Ab hs) w xs vs→RelArgs P n0 noB σ (Ab (reH hs:List (Nat×HEnt (std E' N')))) w (xs.map AV.re) vs
 | [],[],_=>trivial
 |c::cs,v::vs,h=>⟨h.1.re,RelArgs.re h.2⟩
 | [],_::_,h=>h.elim
 |_::_,[],h=>h.elim
theorem Mem.re (m:Mem P n0 noB σ (Ab hs) w):Mem P n0 noB σ (Ab (reH hs:List (Nat×HEnt (std E' N')))) w:=by
 refine⟨fun n e he=>(by cases he),fun n h' hh=>?_,fun b b' e e' blk he=>(by cases he),fun n n' h h' blk cap cap' hh hh'=>?_,fun b e n h blk cap he=>(by cases he)⟩
 ·obtain⟨h0,h1,rfl⟩:=Ec hh
  rcases m.H n h0 h1 with⟨t,ts,h2,h3,h4,h5⟩|hM
  case inr=>exact .inr (hM.view rfl rfl rfl (fun _ _ _=>rfl) (fun _ _ _ ho=>ho))
  refine .inl ⟨t,ts,h2,h3,h4,?_⟩
  rcases h5 with h5|⟨blk,cap,cells,el,a1,a2,a3,a4,a5,a6,v,a7,a8⟩
  ·exact .inl h5
  exact .inr ⟨blk,cap,cells,el,a1,a2,a3,a4,a5,a6,v,a7,fun i j t' hi hj=>(a8 i j t' hi hj).st (fun b hb=>aK hb)⟩
 obtain⟨h0,h1,rfl⟩:=Ec hh;obtain⟨h0',h1',rfl⟩:=Ec hh';exact m.uH n n' h0 h0' blk cap cap' h1 h1'
theorem ji (a b:List (Nat×HEnt (std E N))):(reH (a++b):List (Nat×HEnt (std E' N')))=reH a++reH b:=by simp[reH]
theorem gN (a:List (Nat×HEnt (std E N))):(reH a:List (Nat×HEnt (std E' N'))).length=a.length:=by simp[reH]
theorem Hg {give:Bool}:∀{ts:List TypeId} {q:Nat} {ls rest:List AQ} {cs:List (AC (std E N))} {h:List (Nat×HEnt (std E N))},Ak (O:=std E N) P give q ts ls=some (cs,h,rest)→Ak (O:=std E' N') P give q ts ls=some (cs.map AC.re,reH h,rest)
 | [],q,ls,rest,cs,h,he=>by
  simp only[Ak]at he⊢;cases he;rfl
 |t::ts,q,[],rest,cs,h,he=>by simp only[Ak]at he;cases he
 |t::ts,q,l::ls,rest,cs,h,he=>by
  simp only[Ak]at he⊢;cases hl:AK P t<;>rw[hl]at he<;>cases l<;>simp only at he<;>try (cases he;done)
  ·obtain⟨⟨cs1,h1,r1⟩,e1,e2⟩:=zzo.1 he;cases e2;simp only[Hg e1];rfl
  ·obtain⟨⟨cs1,h1,r1⟩,e1,e2⟩:=zzo.1 he;cases e2;simp only[Hg e1];rfl
  ·obtain⟨⟨cs1,h1,r1⟩,e1,e2⟩:=zzo.1 he;cases e2;simp only[Hg e1];rfl
  ·cases give
   ·obtain⟨⟨cs1,h1,r1⟩,e1,e2⟩:=zzo.1 he;cases e2;simp only[Hg e1];rfl
   obtain⟨⟨cs1,h1,r1⟩,e1,e2⟩:=zzo.1 he;cases e2;simp only[Hg e1];rfl
  obtain⟨⟨cs1,h1,r1⟩,e1,e2⟩:=zzo.1 he;cases e2;simp only[Hg e1];rfl
theorem gC:∀{ts:List TypeId} {ls r:List AQ} {caps:List (Cap (std E N))},Fx (O:=std E N) ts ls=some (caps,r)→Fx (O:=std E' N') ts ls=some (caps.map Cap.re,r)
 | [],ls,r,caps,h=>by simp only[Fx]at h⊢;cases h;rfl
 |t::ts,[],r,caps,h=>by simp[Fx]at h
 |t::ts,l::ls,r,caps,h=>by
  cases l<;>simp only[Fx]at h⊢<;>first|cases h|skip
  obtain⟨⟨c1,r1⟩,e1,e2⟩:=zzo.1 h;cases e2;rw[gC e1];rfl
theorem YI:∀{ts:List TypeId} {gv:List Bool} {q:Nat} {fns:List Nat} {ls:List AQ} {vs:List (AV (std E N))} {hs:List (Nat×HEnt (std E N))},BS (O:=std E N) P gv q ts fns ls=some (vs,hs)→BS (O:=std E' N') P gv q ts fns ls=some (vs.map AV.re,reH hs)
  | [],gv,q,fns,ls,vs,hs,h=>by
    unfold BS at h⊢;cases fns<;>cases ls<;>simp only at h⊢<;>cases h;rfl
  |t::ts,gv,q,fns,ls,vs,hs,h=>by
    unfold BS at h⊢;cases hl:AK P t<;>rw[hl]at h<;>simp only at h⊢
    all_goals first
      | (split at h
         · rename_i f fns';cases hct:vk P f with
           |none=>rw[hct]at h;cases h
           |some cts =>
             rw[hct]at h;simp only at h⊢
             split at h
             · rename_i caps ls1 hca;obtain⟨⟨r,h1⟩,e1,e2⟩:=zzo.1 h;cases e2;simp only[gC hca,YI e1];rfl
             cases h
         · cases h
         done)
      | (split at h
         · cases h
         rename_i l hl2
         split at h
         · cases h
         rename_i cs h1 ls1 hc;obtain⟨⟨r,h2⟩,e1,e2⟩:=zzo.1 h;cases e2;simp only[Hg hc,gN,YI e1];simp[AV.re,Val.re,ji])
theorem FB {own:Nat→Bool} {nw:Bool} {c:List PV}:∀{ts:List TypeId} {j q:Nat} {cs:List (AC (std E N))} {h:List (Nat×HEnt (std E N))},A0 (O:=std E N) P own nw c j q ts=some (cs,h)→A0 (O:=std E' N') P own nw c j q ts=some (cs.map AC.re,reH h)
 | [],j,q,cs,h,he=>by
  simp only[A0]at he⊢;cases he;rfl
 |t::ts,j,q,cs,h,he=>by
  simp only[A0]at he⊢;cases hl:AK P t<;>rw[hl]at he<;>simp only at he<;>try (cases he;done)
  ·obtain⟨⟨cs1,h1⟩,e1,e2⟩:=zzo.1 he;cases e2;simp only[FB e1];rfl
  ·obtain⟨⟨cs1,h1⟩,e1,e2⟩:=zzo.1 he;cases e2;simp only[FB e1];rfl
  ·obtain⟨⟨cs1,h1⟩,e1,e2⟩:=zzo.1 he;cases e2;simp only[FB e1];rfl
  ·rename_i e;cases ho:own e
   ·rw[ho]at he;obtain⟨⟨cs1,h1⟩,e1,e2⟩:=zzo.1 he;cases e2;simp only[FB e1,ho];rfl
   rw[ho]at he;obtain⟨⟨cs1,h1⟩,e1,e2⟩:=zzo.1 he;cases e2;simp only[FB e1,ho];rfl
  obtain⟨⟨cs1,h1⟩,e1,e2⟩:=zzo.1 he;cases e2;simp only[FB e1];rfl
theorem Zz {own:Nat→Bool} {nw:Bool} {c:List PV}:∀{ts:List TypeId} {j q:Nat} {vs:List (Val (std E N))} {h:List (Nat×HEnt (std E N))},Br (O:=std E N) P own nw c j q ts=some (vs,h)→Br (O:=std E' N') P own nw c j q ts=some (vs.map Val.re,reH h)
 | [],j,q,vs,h,he=>by
  simp only[Br]at he⊢;cases he;rfl
 |t::ts,j,q,vs,h,he=>by
  simp only[Br]at he⊢
  split at he
  ·cases he
  rename_i l hl
  split at he
  ·cases he
  rename_i cs h1 hc
  split at he
  ·cases he
  rename_i vs2 h2 hv;cases he;simp only[hl,FB hc,gN,Zz hv];simp[Val.re,ji]
theorem ABT (vs:List (Val (std E N))):(LI (vs.map Val.re):AV (std E' N'))=(LI vs).re:=by
 match vs with
 | []=>rfl
 | [v]=>rfl
 |v::v2::vs=>rfl
theorem Ret.re {ci:CI} {fn:Func} {rs:List PV} {e:Ending} {w':World} (h:Ret (E:=E) (N:=N) P ci n0 σ (Ab hs) w fn rs e w'):Ret (E:=E') (N:=N') P ci n0 σ (Ab (reH hs)) w fn rs e w':=by
 cases e with
 |panicked ch=>exact h.elim
 |outgrown=>exact h.elim
 |returned v =>
  obtain⟨h1,h2,h3,h4,h5,h6⟩:=h;refine⟨h1,h2,h3,h4,fun b hb hm=>h5 b hb (fun h=>hm (bJ.2 h)),fun q=>?_⟩;obtain⟨σ',vs,hs',a1,a2,a3,a4⟩:=h6 q;exact⟨σ',vs.map Val.re,reH hs',Zz a1,a2.re,by rw[ABT];exact a3.re,fun b hb=>(a4 b (bJ.1 hb)).imp (fun h=>bJ.2 h) id⟩
theorem AC2 (hs:List (Nat×HEnt (std E N))):(reH (reH hs:List (Nat×HEnt (std E' N'))):List (Nat×HEnt (std E N)))=hs:=by
 simp only[reH,List.map_map]
 conv=>rhs;rw[←List.map_id hs]
 rfl
theorem xc {ci:CI} (h:∀ (ls rs:List PV),E' ci.f ci.fns ls=some rs→∀ fn,P.funcs[ci.f]?=some fn→∀ (vs:List (AV (std E N))) (hs:List (Nat×HEnt (std E N))),BS (O:=std E N) P ci.gives 1 fn.params.toList ci.fns (ls.map PV.leaf)=some (vs,hs) →
    ∀(n0:Nz) (σ:Nat→Option (Nat×Nat)) (w:World) (args:List Value),n0.n=w.heap.size→Mem P n0 noB σ (Ab hs) w→RelArgs P n0 noB σ (Ab hs) w vs args→(jh ci.gives=true→∀q,σ q=none)→Kept P n0 noB σ (Ab hs) w→Calls P ci.f args.toArray w (Ret (E:=E) (N:=N) P ci n0 σ (Ab hs) w fn rs)):Oz P E' N' ci:=by
  intro fn hfn ls rs he vs hs hav n0 σ w args hn0 m hr hni hkp;refine(h ls rs he fn hfn _ _ (YI hav) n0 σ w args hn0 m.re hr.re hni (fun g hg=>⟨(hkp g hg).1,fun hm=>(hkp g hg).2.1 (bJ.1 hm),(hkp g hg).2.2⟩)).mono (fun e w' hret=>?_);have:=Ret.re (E':=E') (N':=N') hret;rw[AC2]at this;exact this
theorem eC {ci:CI} (h:∀ (ls rs:List PV),E' ci.f ci.fns ls=some rs→∀ fn,P.funcs[ci.f]?=some fn→∀ (vs:List (AV (std E N))) (hs:List (Nat×HEnt (std E N))),BS (O:=std E N) P ci.gives 1 fn.params.toList ci.fns (ls.map PV.leaf)=some (vs,hs) →
    ∀(n0:Nz) (σ:Nat→Option (Nat×Nat)) (w:World) (args:List Value),n0.n=w.heap.size→Mem P n0 noB σ (Ab hs) w→RelArgs P n0 noB σ (Ab hs) w vs args→Kept P n0 noB σ (Ab hs) w→Calls P ci.f args.toArray w (Ret (E:=E) (N:=N) P ci n0 σ (Ab hs) w fn rs)):Oz P E' N' ci :=
  xc fun ls rs he fn hfn vs hs hav n0 σ w args hn0 m hr _ hkp=>h ls rs he fn hfn vs hs hav n0 σ w args hn0 m hr hkp
theorem zk (hmix:P.follows .mixedOrders=true) {cfg:Cfg} (hΓ:GamOK P E N cfg) {ci:CI} (h:∀ (ls rs:List PV),E' ci.f ci.fns ls=some rs→XF (O:=std E N) P cfg ci.ow ci.nw ci.gives ci.f ci.fns (ls.map PV.leaf)=some rs) :
    VV P E' N' ci :=
  fun o k ho=>eC (ci:={ ci with own:=o,sk:=ci.sk++k }) (fun ls rs he fn hfn vs hs hv n0 σ w args hn0 m hr hkp=>zb hmix hΓ (own:=ci.ow) (ci:={ ci with own:=o,sk:=ci.sk++k }) (fun e he=>by
    unfold CI.ow at he⊢;simp only[zzj,Bool.not_eq_true']at he⊢;refine⟨ho he.1,he.2.1,?_⟩;cases hm:CT e ci.sk
    · rfl
    rw[Cd.2 (List.mem_append_left _ (Cd.1 hm))]at he;cases he.2.2) (h ls rs he) hfn hv hn0 m hkp hr)
end
def gp:Operand→Bool
 | .const (.slice none 0 0)=>true
 |_=>false
def MV (T:TypeId):Code→Option (Code×Code)
 | .seq (.region _ r0 false) (.seq (.seq (.region _ r1 false) (.cond (.tmp 4) nb .skip)) tail)=>match r0.toList,r1.toList with
  | [⟨some 2,.assign (.const _),_,_,_,none⟩],[⟨some 3,.move (.tmp 0),_,_,_,none⟩,⟨some 4,.binOp .eql U (.tmp 3) z _,_,_,_,none⟩]=>match Nat.beq U T&&gp z with
   |true=>some (nb,tail)
   |false=>none
  |_,_=>none
 |_=>none
def IK {O:Alg} (e:TypeId) (l:O.L):State O:={ tm:=B5 0 [.val ⟨false,[.imm e false l]⟩] .e,bx:=[],hp:=[],st:=1 }
section
variable {E:Env} {N:Nat} {P:Program} {cfg:Cfg} {n0 n0':Nz} {nt:Nat} {β β':Nat→Option Nat} {σ σ':Nat→Option (Nat×Nat)} {s s' s2:St0 E N} {a a':Act} {w w':World}
theorem Sim.put_free (hs:Sim P n0 nt β σ s a w) {d:Nat} {z:Value} (hd:s.getT d=none) (hg:∀n tv,s.getT n=some tv→tv.gs=[]):Sim P n0 nt β σ s (a.put (some d) z) w:=by
 refine⟨hs.n0le,by simp[Act.put,hs.size],fun n tv hn=>?_,hs.M,hs.kept⟩;have hne:n≠d:=fun e=>by rw[e,hd]at hn;cases hn
 rw[Fp hne];have g0:=hg n tv hn
 rcases hs.T n tv hn with⟨h1,h2⟩|⟨h1,h2⟩
 ·exact .inl ⟨by rw[g0];exact fun n b hm=>by simp at hm,h2⟩
 exact(h1 (by rw[g0];exact fun n b hm=>by simp at hm)).elim
theorem Xe {ops:Array Oper} {Q:Exit→Act→World→Prop} {i:Nat} {o:Oper} (ho:ops[i]?=some o) (hg:o.guard=none) {v:Value} (hx:(execOp a.eval o).run P w=.ok (.value v) w) {K:Act→World→Prop} (hK:K (a.put o.dst v) w):wpOp P ops Q i K a w:=by
 unfold wpOp;simp only[ho,Region.wanted,hg,if_true];refine .inl ?_;unfold Oper.wp;rw[hx];exact hK
theorem yl {d:Option Tmp} {t:TypeId} {p:String} {af:Array Edge} {g:Option (Nat×Bool)} {x:Operand} {v:Value} (h:a.eval x=v):(execOp a.eval ⟨d,.move x,t,p,af,g⟩).run P w=.ok (.value v) w:=by
 subst h;rfl
theorem vx {d:Option Tmp} {t:TypeId} {p:String} {af:Array Edge} {g:Option (Nat×Bool)} {x:Operand} {v:Value} (h:a.eval x=v):(execOp a.eval ⟨d,.assign x,t,p,af,g⟩).run P w=.ok (.value v) w:=by
 subst h;rfl
theorem xO {o:Oper} {Q:Exit→Act→World→Prop} (hg:o.guard=none) {v:Value} (hx:(execOp a.eval o).run P w=.ok (.value v) w) (hK:Q .normal (a.put o.dst v) w):wpOps P #[o] Q (List.range 1) a w:=by
 show wpOps P #[o] Q [0] a w;rw[wpOps_cons];exact Xe rfl hg hx hK
theorem yN {o o':Oper} {Q:Exit→Act→World→Prop} (hg:o.guard=none) (hg':o'.guard=none) {v v':Value} (hx:(execOp a.eval o).run P w=.ok (.value v) w) (hx':(execOp (a.put o.dst v).eval o').run P w=.ok (.value v') w)
    (hK:Q .normal ((a.put o.dst v).put o'.dst v') w):wpOps P #[o,o'] Q (List.range 2) a w:=by
  show wpOps P #[o,o'] Q [0,1] a w;rw[wpOps_cons];refine Xe rfl hg hx ?_;rw[wpOps_cons];exact Xe rfl hg' hx' hK
theorem tK (hmix:P.follows .mixedOrders=true) (hΓ:GamOK P E N cfg) {own:Nat→Bool} {own' nw:Bool} {sk:List Nat} {f:FuncId} (ho:∀ e,CI.ow ⟨f,[],own',nw,[],sk⟩ e=true→own e=true) {T e:TypeId} {fn:Func} (hfn:P.funcs[f]?=some fn) (hp:fn.params.toList=[T]) (hT:P.underlying T=some (.slice e)) (hq:(Nat.blt e ptB && !Hl P e)=true)
    {body nb tail:Code} (hb:fn.body=some body) (hpc:MV T body=some (nb,tail)) (ht1:DK fn.ntmps nb=true) (ht2:DK fn.ntmps tail=true) (hna:(an P nb).nrm.isNone=true) (hnt:5≤fn.ntmps) {lv:Lv} {l:Rows}
    (h1:l=[]→XL (O:=std E N) P cfg 6 nb true lv (IK e l) (kS P own nw fn)=some [.rows l]) (h2:XL (O:=std E N) P cfg 6 tail true lv (IK e l) (kS P own nw fn)=some [.rows l])
    {vs:List (AV (std E N))} {hs:List (Nat×HEnt (std E N))} (hv:BS (O:=std E N) P [] 1 fn.params.toList [] ([PV.rows l].map PV.leaf)=some (vs,hs)) (hn0:n0.n=w.heap.size) (m:Mem P n0 noB σ (Ab hs) w) (hkp:Kept P n0 noB σ (Ab hs) w) {args:List Value} (hr:RelArgs P n0 noB σ (Ab hs) w vs args) :
    Calls P f args.toArray w (Ret (E:=E) (N:=N) P ⟨f,[],own',nw,[],sk⟩ n0 σ (Ab hs) w fn [.rows l]):=by
  have hlk:AK P T=.sl e:=zz hT hq;obtain⟨rfl,rfl⟩:vs=[.val ⟨false,[.imm e false l]⟩]∧hs=[]:=by
    rw[hp]at hv;unfold BS at hv;simp only[hlk]at hv;cases ht:AW P T with
    |none=>rw[ht]at hv;cases hv
    |some ts =>
      rw[ht]at hv;have:ts=[T]:=by
        unfold AW at ht;simp only[Dy,CU,hT]at ht
        split at ht
        · cases ht;rfl
        cases ht
      subst this;have hag:Ag P T=false:=by simp[Ag,hT]
      simp[Ak,hlk,PV.leaf,BS,hag]at hv;exact⟨hv.1.symm,hv.2⟩
  obtain⟨v,rfl⟩:∃v,args=[v]:=by
    have:=hr.len
    match args,this with
    | [v],_=>exact⟨v,rfl⟩
  have hv0:RelVal P n0 noB σ (Ab []) w (⟨false,[.imm e false l]⟩:Val (std E N)) v:=hr.1;obtain⟨hc1,hc2⟩:=hv0;have hc2:v.oneCell'=true:=hc2;rw[Bp hc2]at hc1;obtain⟨t0,ht0,hrep⟩:RelC P n0 noB σ (Ab ([]:List (Nat×HEnt (std E N)))) w (.imm e false l) v:=hc1.1;obtain⟨ad,len,cap,hvs,hnil⟩:∃ad len cap,v=.slice ad len cap∧(ad=none→l=[]):=by
    have hlp:e<ptB:=by rw[zzj]at hq;exact A7.1 hq.1
    cases hrep with
    |ptN h8 h9=>exact(AAY ht0 h8 hlp h9).elim
    |pt h8 _ _=>exact(ADR ht0 h8 hlp).elim
    |sl v h hts hl hrl hcap hm hv =>
      refine⟨_,_,_,rfl,fun ha=>?_⟩
      rcases hm with hm|⟨b,off,hb,_⟩
      · exact List.length_eq_zero_iff.1 (by rw[hl];exact hm)
      rw[hb]at ha;cases ha
  subst hvs;unfold MV at hpc
  split at hpc
  case h_2=>cases hpc
  rename_i i0 r0 i1 r1 nb' tail'
  split at hpc
  case h_2=>cases hpc
  rename_i c0 ty0 pos0 af0 ty1 pos1 af1 U z uT ty2 pos2 af2 hr0 hr1
  split at hpc
  case h_2=>cases hpc
  rename_i hUz;cases hpc;simp only[zzj]at hUz;have hU:=AG.1 hUz.1;subst hU;obtain rfl:z=.const (.slice none 0 0):=by
    have:=hUz.2;unfold gp at this
    split at this
    · rfl
    cases this
  have e0:r0=#[⟨some 2,.assign (.const c0),ty0,pos0,af0,none⟩]:=by apply Array.ext';exact hr0
  have e1:r1=#[⟨some 3,.move (.tmp 0),ty1,pos1,af1,none⟩,⟨some 4,.binOp .eql U (.tmp 3) (.const (.slice none 0 0)) uT,ty2,pos2,af2,none⟩]:=by apply Array.ext';exact hr1
  subst e0;subst e1
  let sx:St0 E N:={ tm:=.e,bx:=[],hp:=[],st:=1 }
  have subx:Sub (Ab ([]:List (Nat×HEnt (std E N)))) sx:=Sub.of_same (fun _=>rfl) (fun _=>rfl);have mx:Mem P n0 noB σ sx w:=subx.mem m;have hrx:RelArgs P n0 noB σ sx w [.val ⟨false,[.imm e false l]⟩] [.slice ad len cap]:=(subx.ext P n0 (fun _=>False) noB σ w).relArgs hr;have hfx:∀n,sx.st≤n→Mh sx n:=fun n hn=>⟨fun k e he=>(by cases he),fun k e he=>(by cases he)⟩
  have hs1:=zu (s:=sx) (nt:=fn.ntmps) (Nat.le_of_eq hn0) mx (hkp.ext (subx.ext P n0 (fun _=>False) noB σ w)) hrx;have wf1:WF (IK e l:St0 E N):=wf0 (s:=sx) hfx (args:=[.val ⟨false,[.imm e false l]⟩]) (fun x hx n hn=>by simp at hx;subst hx;simp[AV.names,AH,AC.names]at hn);have hs1:Sim P n0 (GL fn.ntmps [.slice ad len cap]).tmps.size noB σ (IK e l:St0 E N) (GL fn.ntmps [.slice ad len cap]) w:=hs1;have subs1:Sub sx (IK e l:St0 E N):=Sub.of_same (fun _=>rfl) (fun _=>rfl);have free:∀d,d≠0→(IK e l:St0 E N).getT d=none:=fun d hd=>by
    cases hx:(IK e l:St0 E N).getT d with
    |none=>rfl
    |some tv =>
      have hx:DR (B5 0 [.val ⟨false,[.imm e false l]⟩] (.e:TM (TV (std E N)))) d=some tv:=hx
      rcases Qf hx with h|⟨_,v,h1,_⟩
      · rw[Wf]at h;cases h
      have:=(List.getElem?_eq_some_iff.1 h1).1;simp at this;omega
  have hs2:=((hs1.put_free (d:=2) (z:=c0) (free 2 (by omega)) wf1.gs).put_free (d:=3) (z:=.slice ad len cap) (free 3 (by omega)) wf1.gs).put_free (d:=4) (z:=.bool ad.isNone) (free 4 (by omega)) wf1.gs;have hsz:=aN (nt:=fn.ntmps) (vals:=[.slice ad len cap]);have ht1':=Qj hsz ht1;have ht2':=Qj hsz ht2;have x0:∀{β':Nat→Option Nat} {σ':Nat→Option (Nat×Nat)} {s':St0 E N} {w':World},Ext P n0 (fun n=>(IK e l:St0 E N).st≤n) noB σ (IK e l) w β' σ' s' w'→Ext P n0 (fun _=>True) noB σ (Ab ([]:List (Nat×HEnt (std E N)))) w β' σ' s' w':=fun x =>
    (((subx.ext P n0 (fun _=>False) noB σ w).trans (subs1.ext P n0 (fun _=>False) noB σ w)).trans x).weaken (fun _ _=>trivial)
  have hget0:((GL fn.ntmps [Value.slice ad len cap]).put (some 2) c0).tmps.getD 0 undef=.slice ad len cap:=by
    rw[Fp (by omega)];simp only[GL];rw[Array.getD_eq_getD_getElem?,Array.getElem?_append_left (by simp)];rfl
  have hget3:(((GL fn.ntmps [Value.slice ad len cap]).put (some 2) c0).put (some 3) (.slice ad len cap)).tmps.getD 3 undef=.slice ad len cap:=by
    refine Mm ?_;have:5≤(GL fn.ntmps [Value.slice ad len cap]).tmps.size:=Nat.le_trans hnt hsz;simp[Act.put];omega
  have hget4:((((GL fn.ntmps [Value.slice ad len cap]).put (some 2) c0).put (some 3) (.slice ad len cap)).put (some 4) (.bool ad.isNone)).tmps.getD 4 undef=.bool ad.isNone:=by
    refine Mm ?_;have:5≤(GL fn.ntmps [Value.slice ad len cap]).tmps.size:=Nat.le_trans hnt hsz;simp[Act.put];omega
  generalize hB:bodyPost P fn (Ret (E:=E) (N:=N) P ⟨f,[],own',nw,[],sk⟩ n0 σ (Ab []) w fn [.rows l])=B;generalize hA:(((GL fn.ntmps [Value.slice ad len cap]).put (some 2) c0).put (some 3) (.slice ad len cap)).put (some 4) (.bool ad.isNone)=A at hs2 hget4;have hAd:A.defers=[]:=by rw[←hA];rfl
  have fin:(Code.cond (.tmp 4) nb Code.skip).wp P (Exit.then (tail.wp P B) B) A w:=by
    refine wp_cond_split (t:=ad.isNone) (c:=.tmp 4) (a:=A) hget4 (fun ht=>?_) (fun ht=>?_)
    · have hl:=hnil (by cases ad with|none=>rfl|some _=>simp at ht);refine oG hmix hΓ 6 n0 _ _ ht1' _ _ _ _ _ noB σ _ w _ (h1 hl) hs2 wf1 (fun ex s' β' σ' a' w' hk mm hmm hp wf' hle=>?_);have hfin:=pd hn0 (ci:=⟨f,[],own',nw,[],sk⟩) (fn:=fn) ho hp.sim (hp.defers.trans hAd) (x0 hp.ext) hk;rw[hB]at hfin;cases ex with
      |nrm =>
        have:(an P nb).nrm=some mm:=hmm;rw[this]at hna;cases hna
      |ret=>exact hfin
      |ext id=>exact hfin
    refine wp_skip ?_;refine oG hmix hΓ 6 n0 _ _ ht2' _ _ _ _ _ noB σ _ w B h2 hs2 wf1 (fun ex s' β' σ' a' w' hk mm hmm hp wf' hle=>?_);rw[←hB];exact pd hn0 (ci:=⟨f,[],own',nw,[],sk⟩) ho hp.sim (hp.defers.trans hAd) (x0 hp.ext) hk
  refine calls_of_wp hfn hb ?_;rw[hB];refine wp_seq (wp_region (xO (o:=⟨some 2,.assign (.const c0),ty0,pos0,af0,none⟩) rfl (v:=c0) (vx (x:=.const c0) rfl) ?_));show(Code.seq (Code.seq _ _) tail).wp P B ((GL fn.ntmps [Value.slice ad len cap]).put (some 2) c0) w;refine wp_seq (wp_seq (wp_region (yN (o:=⟨some 3,.move (.tmp 0),ty1,pos1,af1,none⟩) (o':=⟨some 4,.binOp .eql U (.tmp 3) (.const (.slice none 0 0)) uT,ty2,pos2,af2,none⟩) rfl rfl (v:=.slice ad len cap) (v':=.bool ad.isNone)
    (yl (a:=(GL fn.ntmps [Value.slice ad len cap]).put (some 2) c0) (x:=.tmp 0) hget0) (Bv (x:=do eqGuard .eql U (.tmp 3) (.const (.slice none 0 0)) ((((GL fn.ntmps [Value.slice ad len cap]).put (some 2) c0).put (some 3) (.slice ad len cap)).eval (.tmp 3)) (.slice none 0 0);Go.binOp .eql U ((((GL fn.ntmps [Value.slice ad len cap]).put (some 2) c0).put (some 3) (.slice ad len cap)).eval (.tmp 3)) (.slice none 0 0)) (by simp[execOp,Act.eval]) (by
    rw[show((((GL fn.ntmps [Value.slice ad len cap]).put (some 2) c0).put (some 3) (.slice ad len cap)).eval (.tmp 3))=.slice ad len cap from hget3];exact Af (Cv _ _ _ _ _ _ rfl (by simp)) (Lib.run_eql_slice_nil (P:=P) w U e ad len cap 0 0 hT))) ?_)))
  rw[←hA]at fin;exact fin
end
def VB:List Nat→List PV→Bool
 | [],[]=>true
 |k::ks,p::ps=>(match p with | .int _=>Nat.beq k 0 | .bool _=>Nat.beq k 1 | .str _=>Nat.beq k 2 | .rows _=>Nat.beq k 3)&&VB ks ps
 |_,_=>false
structure Ags (O:Alg) where
 I:Nat→O.I
 B:Nat→O.B
 S:Nat→O.S
 L:Nat→O.L
def xr {O:Alg} (x:Ags O):List Nat→Nat→List O.Lf
 | [],_=>[]
 |k::ks,j=>(match k with|0=>.int (x.I j)|1=>.bool (x.B j)|2=>.str (x.S j)|_=>.rows (x.L j))::xr x ks (j+1)
def cr (O:Alg) (c:O.C):List Nat→Nat→List O.Lf
 | [],_=>[]
 |k::ks,j=>(match k with|0=>.int (O.c c j)|1=>.bool (O.p c j)|2=>.str (O.cS c j)|_=>.rows (O.k c j))::cr O c ks (j+1)
def rr (O:Alg) (l:O.L) (i:O.I):List Nat→Nat→List O.Lf
 | [],_=>[]
 |k::ks,j=>(match k with|0=>.int (O.r l i j)|1=>.bool (O.rB l i j)|2=>.str (O.rS l i j)|_=>.rows (O.rL l i j))::rr O l i ks (j+1)
def kI:List Nat:=[0,0,0,0,0,0,0,0,0,0,0,0,0,0,3,0,3,3,1,3,1,0,0,0,3,0,0,0]
def kR:List Nat:=[2,0,0,0,0,0,0,0,1,0,0,0,0,3]
def kM:List Nat:=[2,0,0,0,0,0,0,0,1,0,0,0,0,3,0,0,1,3,0,0,0,0,0]
def ap (O:Alg) (a b:List O.Lf):List O.Lf:=a++b
def xOf {E:Env} {N:Nat} (ls:List PV):Ags (std E N):={ I:=fun j=>pvI (AA ls j),B:=fun j=>pvB (AA ls j),S:=fun j=>pvS (AA ls j),L:=fun j=>pvL (AA ls j) }
theorem qW {E:Env} {N:Nat}:∀{ks:List Nat} {ps pre:List PV},VB ks ps=true→ps.map PV.leaf=xr (xOf (E:=E) (N:=N) (pre++ps)) ks pre.length
 | [],[],pre,_=>rfl
 |k::ks,p::ps,pre,h=>by
  simp only[VB,zzj]at h;have ih:=qW (E:=E) (N:=N) (ks:=ks) (ps:=ps) (pre:=pre++[p]) h.2;simp only[List.map_cons,xr];have hc:AA (pre++p::ps) pre.length=p:=by
   unfold AA;rw[zzk,List.getElem?_append_right (Nat.le_refl _)];simp
  rw[List.append_assoc,List.length_append]at ih;have ih:ps.map PV.leaf=xr (xOf (E:=E) (N:=N) (pre++p::ps)) ks (pre.length+1):=ih;rw[ih];congr 1;have h1:=h.1;cases p with
  |int n=>have:=AG.1 h1;subst this;simp[xOf,hc,PV.leaf]
  |bool n=>have:=AG.1 h1;subst this;simp[xOf,hc,PV.leaf]
  |str n=>have:=AG.1 h1;subst this;simp[xOf,hc,PV.leaf]
  |rows n=>have:=AG.1 h1;subst this;simp[xOf,hc,PV.leaf]
 | [],_::_,_,h=>by simp[VB]at h
 |_::_,[],_,h=>by simp[VB]at h
theorem tJ {E:Env} {N:Nat} {ks:List Nat} {ls:List PV} (h:VB ks ls=true):ls.map PV.leaf=xr (xOf (E:=E) (N:=N) ls) ks 0:=qW (pre:=[]) h
def QH (ks:List Nat) (ls:List PV) (F:Option (List PV)):Option (List PV):=match VB ks ls with
 |true=>F
 |false=>none
theorem qV {ks:List Nat} {ls rs:List PV} {F:Option (List PV)} (h:QH ks ls F=some rs):VB ks ls=true∧F=some rs:=by
 unfold QH at h
 split at h
 ·rename_i hs;exact⟨hs,h⟩
 cases h
theorem Dx {P:Program} {E:Env} {N:Nat}:∀ci∈([]:List CI),VV P E N ci:=fun ci h=>by simp at h
theorem Al {P:Program} {E:Env} {N:Nat} {c:CI} {l:List CI} (h:VV P E N c) (k:∀ci∈l,VV P E N ci):∀ci∈c::l,VV P E N ci:=fun ci hm=>by
 rcases List.mem_cons.1 hm with rfl|hm
 ·exact h
 exact k ci hm
theorem i9 {P:Program} (hmix:P.follows .mixedOrders=true) {E:Env} {N:Nat} {cfg:Cfg} (hΓ:∀ ci∈cfg.gam,VV P E N ci) (hb:∀ p∈cfg.shf,U8 P p.1 p.2) {ci:CI} {ks:List Nat} {c F:List PV→Option (List PV)} (hc:∀ ls,c ls=QH ks ls (F ls))
    (hx:∀ls,XF (O:=std E N) P cfg ci.ow ci.nw ci.gives ci.f ci.fns (xr (xOf ls) ks 0)=F ls) {E':Env} {N':Nat} (h:∀ls,E' ci.f ci.fns ls=c ls):VV P E' N' ci :=
  zk hmix ⟨hΓ,hb⟩ (fun ls rs he=>by
    rw[h,hc]at he;obtain⟨h1,h2⟩:=qV he;rw[tJ h1,hx];exact h2)
theorem CZ {P:Program} (hmix:P.follows .mixedOrders=true) {E:Env} {N:Nat} {cfg:Cfg} (hΓ:∀ ci∈cfg.gam,VV P E N ci) {ci:CI} {ks:List Nat} {c F:List PV→Option (List PV)} (hc:∀ ls,c ls=QH ks ls (F ls))
    (hx:∀ls,XF (O:=std E N) P cfg ci.ow ci.nw ci.gives ci.f ci.fns (xr (xOf ls) ks 0)=F ls) {E':Env} {N':Nat} (h:∀ls,E' ci.f ci.fns ls=c ls) (hb:cfg.shf=[]:=by rfl):VV P E' N' ci :=
  i9 hmix hΓ (by rw[hb];exact fun b h=>by simp at h) hc hx h
def cE (n b:Nat):Bool:=decide (n≤17592186044416∧n*b≤17592186044416)
def GA (b:Nat) (ls:List PV):Option (List PV):=match ls with
 | [.rows l]=>match cE l.length b with
  |true=>some [.rows l]
  |false=>none
 |_=>none
def Tn (T:TypeId) (fn:Func):Code:=match fn.body with
 |some c=>match MV T c with
  |some (nb,_)=>nb
  |none=>.skip
 |none=>.skip
def Vc (T:TypeId) (fn:Func):Code:=match fn.body with
 |some c=>match MV T c with
  |some (_,t)=>t
  |none=>.skip
 |none=>.skip
def lZ (fn:Func):Lv:={ nrm:=P7 fn.results.toList,ret:=P7 fn.results.toList,exts:=[] }
def uN (P:Program) (T:TypeId) (fn:Func):Bool:=match fn.body with
 |some c=>(MV T c).isSome&&DK fn.ntmps (Tn T fn)&&DK fn.ntmps (Vc T fn)&&(an P (Tn T fn)).nrm.isNone&&Nat.ble 5 fn.ntmps&&AR fn.params.toList [T]
 |none=>false
theorem EW {P:Program} (hmix:P.follows .mixedOrders=true) {f:FuncId} {T e:TypeId} {b:Nat} {nw:Bool} {fn:Func} (hfn:P.funcs[f]?=some fn) (hT:P.underlying T=some (.slice e)) (hok:uN P T fn=true) (hb:b≤1048576)
    (h1:∀(O:Alg) (l:O.L),XL (O:=O) P { gam:=[] } 6 (Tn T fn) true (lZ fn) (IK e l) (kS P (fun _=>true) nw fn)=O.a [.rows O.s])
    (h2:∀(O:Alg) (l:O.L),XL (O:=O) P { gam:=[] } 6 (Vc T fn) true (lZ fn) (IK e l) (kS P (fun _=>true) nw fn)=O.l (O.ab (O.j (O.ad (O.y []) l)) b) (O.a [.rows (O.ad (O.y []) l)]))
    {E':Env} {N':Nat} (h:∀ls,E' f [] ls=GA b ls) (hq:(Nat.blt e ptB && !Hl P e)=true:=by rfl):VV P E' N' ⟨f,[],true,nw,[],[]⟩:=by
  unfold uN at hok
  split at hok
  case h_2=>cases hok
  rename_i c hbody;simp only[zzj]at hok;obtain⟨⟨⟨⟨⟨k1,k2⟩,k3⟩,k4⟩,k5⟩,k6⟩:=hok;have k5:=Nat.le_of_ble_eq_true k5;have k6:=JP.1 k6;obtain⟨⟨nb,tail⟩,hpc⟩:=Option.isSome_iff_exists.1 k1;have hnb:Tn T fn=nb:=by simp[Tn,hbody,hpc]
  have htl:Vc T fn=tail:=by simp[Vc,hbody,hpc]
  rw [hnb] at k2 k4;rw [htl] at k3;have main:∀ own',(own'=true→true=true)→∀ k,∀ (ls rs:List PV),E' f [] ls=some rs→∀ fn',P.funcs[f]?=some fn'→∀ (vs:List (AV (std E' N'))) (hs:List (Nat×HEnt (std E' N'))),BS (O:=std E' N') P [] 1 fn'.params.toList [] (ls.map PV.leaf)=some (vs,hs) →
      ∀(n0:Nz) (σ:Nat→Option (Nat×Nat)) (w:World) (args:List Value),n0.n=w.heap.size→Mem P n0 noB σ (Ab hs) w→RelArgs P n0 noB σ (Ab hs) w vs args→Kept P n0 noB σ (Ab hs) w→Calls P f args.toArray w (Ret (E:=E') (N:=N') P ⟨f,[],own',nw,[],k⟩ n0 σ (Ab hs) w fn' rs) :=
    fun own' ho k ls rs he fn' hfn' vs hs hv n0 σ w args hn0 m hr hkp=>by
      rw[hfn]at hfn';cases hfn';rw[h]at he;unfold GA at he
      split at he
      case h_2=>cases he
      rename_i l
      split at he
      case h_2=>cases he
      rename_i hsm;cases he;unfold cE at hsm;have hsm:=of_decide_eq_true hsm;refine tK (cfg:={ gam:=[] }) hmix ⟨fun ci hm=>by simp at hm,fun p hm=>by simp at hm⟩ (fun _ _=>rfl) hfn k6 hT hq hbody hpc k2 k3 k4 k5 (lv:=lZ fn) (fun hl=>?_) ?_ hv hn0 m hkp hr
      · rw[←hnb,h1,hl];rfl
      rw[←htl,h2];have:(decide ((0:Int)≤((([]++l:Rows).length:Nat):Int)∧((([]++l:Rows).length:Nat):Int)≤17592186044416∧((([]++l:Rows).length:Nat):Int)*(b:Int)≤17592186044416∧b≤1048576))=true:=by
        simp only[List.nil_append,decide_eq_true_eq];refine⟨by omega,by omega,?_,hb⟩;have:=hsm.2;rw[←Int.natCast_mul];omega
      show cond (decide ((0:Int)≤((([]++l:Rows).length:Nat):Int)∧((([]++l:Rows).length:Nat):Int)≤17592186044416∧((([]++l:Rows).length:Nat):Int)*(b:Int)≤17592186044416∧b≤1048576)) (some [PV.rows ([]++l)]) none=_;rw[this];rfl
  exact fun o k _=>eC (ci:=⟨f,[],o,nw,[],k⟩) (main o (fun _=>rfl) k)
open Go.RowKit
def pW (ls:List PV):Option (List PV):=match ls with
 | [.str s,.int c]=>some [.int (Lib.indexByte s.data.toList c.toNat.toUInt8)]
 |_=>none
theorem sP {P:Program} {f:FuncId} {T5 T9 T3:TypeId} {fn:Func} (hfn:P.funcs[f]?=some fn) (hp:fn.params=#[T9,T5]) (hr:fn.resultTypes=#[T3]) (h9:P.underlying T9=some .string) (h5:P.underlying T5=some (.int .u8)) (h3:P.underlying T3=some (.int .i64)) (h3t:AW P T3=some [T3])
    (hc:∀(s:ByteArray) (c:Int) (w:World),Calls P f #[.string s,.int .u8 c] w fun e w'=>e=.returned (.int .i64 (Lib.indexByte s.data.toList c.toNat.toUInt8))∧w'=w)
    {E':Env} {N':Nat} (h:∀ls,E' f [] ls=pW ls):VV P E' N' ⟨f,[],true,true,[],[]⟩:=by
  have l9:AK P T9=.str:=by simp[AK,h9]
  have l5:AK P T5=.int .u8:=by simp[AK,h5]
  have l3:AK P T3=.int .i64:=by simp[AK,h3]
  have a3:Ag P T3=false:=by simp[Ag,h3]
  have a5:Ag P T5=false:=by simp[Ag,h5]
  have a9:Ag P T9=false:=by simp[Ag,h9]
  have ty:∀{T:TypeId} {x:List TypeId} {d:TypeDesc},P.underlying T=some d→(∀k,CU P (k+1) T=some [T])→AW P T=some x→x=[T]:=fun {T x d} _ hk hx=>by
    unfold AW at hx;rw[show Dy=19+1 from rfl,hk]at hx;simp only at hx
    split at hx
    · cases hx;rfl
    cases hx
  have main:∀ own' k,∀ (ls rs:List PV),E' f [] ls=some rs→∀ fn',P.funcs[f]?=some fn'→∀ (vs:List (AV (std E' N'))) (hs:List (Nat×HEnt (std E' N'))),BS (O:=std E' N') P [] 1 fn'.params.toList [] (ls.map PV.leaf)=some (vs,hs) →
      ∀(n0:Nz) (σ:Nat→Option (Nat×Nat)) (w:World) (args:List Value),n0.n=w.heap.size→Mem P n0 noB σ (Ab hs) w→RelArgs P n0 noB σ (Ab hs) w vs args→Kept P n0 noB σ (Ab hs) w→Calls P f args.toArray w (Ret (E:=E') (N:=N') P ⟨f,[],own',true,[],k⟩ n0 σ (Ab hs) w fn' rs) :=
    fun own' k ls rs he fn' hfn' vs hs hv n0 σ w args hn0 m hra hkp=>by
      rw[hfn]at hfn';cases hfn';rw[h]at he;unfold pW at he
      split at he
      case h_2=>cases he
      rename_i s c;cases he;rw[hp]at hv;have hT9:AW P T9=none∨AW P T9=some [T9]:=by
        cases hx:AW P T9 with
        |none=>exact .inl rfl
        |some x=>exact .inr (by rw[ty h9 (fun k=>by simp[CU,h9]) hx])
      have hT5:AW P T5=none∨AW P T5=some [T5]:=by
        cases hx:AW P T5 with
        |none=>exact .inl rfl
        |some x=>exact .inr (by rw[ty h5 (fun k=>by simp[CU,h5]) hx])
      unfold BS at hv;simp only[l9]at hv
      rcases hT9 with hT9|hT9
      · simp[hT9]at hv
      simp only[hT9,List.map_cons,List.map_nil,PV.leaf,Ak,l9,Option.map_some]at hv;unfold BS at hv;simp only[l5]at hv
      rcases hT5 with hT5|hT5
      · simp[hT5]at hv
      simp[hT5,Ak,l5,BS,a9,a5]at hv;obtain⟨rfl,rfl⟩:=hv;obtain⟨v1,v2,rfl⟩:∃v1 v2,args=[v1,v2]:=by
        have:=hra.len
        match args,this with
        | [v1,v2],_=>exact⟨v1,v2,rfl⟩
      obtain⟨q1,q2,_⟩:=hra;have q1:RelVal P n0 noB σ (Ab []) w (⟨false,[.str s]⟩:Val (std E' N')) v1:=q1;have q2:RelVal P n0 noB σ (Ab []) w (⟨false,[.int .u8 c]⟩:Val (std E' N')) v2:=q2;obtain⟨g1,g2⟩:=q1;have g2:v1.oneCell'=true:=g2;rw[Bp g2]at g1;have e1:v1=.string s:=g1.1;obtain⟨k1,k2⟩:=q2;have k2:v2.oneCell'=true:=k2;rw[Bp k2]at k1;have e2:v2=.int .u8 c:=k1.1;subst e1;subst e2;refine Calls.mono (hc s c w) (fun e w' hp2=>?_);obtain⟨rfl,rfl⟩:=hp2;refine⟨rfl,rfl,rfl,Nat.le_refl _,fun _ _ _=>rfl,fun q=>⟨fun _=>none,[⟨false,[.int .i64 _]⟩],[],?_,⟨fun _ _ h=>(by cases h),fun _ _ h=>(by cases h),fun _ _ _ _ _ h=>(by cases h),fun _ _ _ _ _ _ _ h=>(by cases h),fun _ _ _ _ _ _ h=>(by cases h)⟩,⟨⟨rfl,trivial⟩,rfl⟩,fun b hb=>?_⟩⟩
      · rw[hr];simp[Br,h3t,A0,l3,a3];rfl
      rcases hb with⟨_,_,hx,_⟩|⟨_,_,_,hx,_⟩
      · cases hx
      cases hx
  exact fun o k _=>eC (ci:=⟨f,[],o,true,[],k⟩) (main o k)
end Go.Px
end
section
namespace Go.Px
def cI (n:Nat):CI:=⟨n,[],true,true,[],[]⟩
def Vd (P:Program) (n:Nat) (c:Nat→List PV→Option (List PV)):Prop:=∀{E:Env} {M:Nat} (N:Nat),(∀ls,E n [] ls=c N ls)→VV P E M (cI n)
def eL (l:List (Nat×(Nat→List PV→Option (List PV)))) (N:Nat):Env:=fun f fns ls=>match l with
 | []=>none
 |p::r=>cond (Nat.beq f p.1&&AR fns []) (p.2 N ls) (eL r N f fns ls)
def oS (ks:List Nat) (t:∀O:Alg,Ags O→O.M) (env:Nat→Env) (N:Nat) (ls:List PV):Option (List PV):=QH ks ls (t (std (env N) N) (xOf ls))
inductive Gs (P:Program):List (Nat×(Nat→List PV→Option (List PV)))→Prop
 |nil:Gs P []
 |cons {n:Nat} {c:Nat→List PV→Option (List PV)} {l:List (Nat×(Nat→List PV→Option (List PV)))} (h:Vd P n c) (t:Gs P l):Gs P ((n,c)::l)
theorem g0 {P:Program}:Gs P []:=.nil
theorem gs {P:Program} {n:Nat} {c:Nat→List PV→Option (List PV)} {l:List (Nat×(Nat→List PV→Option (List PV)))} (h:Vd P n c) (t:Gs P l):Gs P ((n,c)::l):=.cons h t
def Sd:List Nat→Bool
 | []=>true
 |n::l=>l.all (fun m => !Nat.beq m n)&&Sd l
theorem xv {l:List (Nat×(Nat→List PV→Option (List PV)))} {N:Nat}:∀{pre:List (Nat×(Nat→List PV→Option (List PV)))} {n:Nat} {c:Nat→List PV→Option (List PV)} {ls:List PV},pre.all (fun p => !Nat.beq n p.1)=true→eL (pre++(n,c)::l) N n [] ls=c N ls
 | [],n,c,ls,_=>by
  show cond (Nat.beq n n&&true) (c N ls) _=_;rw[Nat.beq_refl];rfl
 |p::pre,n,c,ls,h=>by
  rw[List.all_cons,zzj]at h;have h1:Nat.beq n p.1=false:=by
   have:=h.1;simpa using this
  show cond (Nat.beq n p.1&&true) _ (eL (pre++(n,c)::l) N n [] ls)=_;rw[h1];exact xv h.2
theorem yB {P:Program} {N:Nat}:∀{l:List (Nat×(Nat→List PV→Option (List PV)))} {pre:List (Nat×(Nat→List PV→Option (List PV)))},Gs P l→(∀p∈l,pre.all (fun q => !Nat.beq p.1 q.1)=true)→Sd (l.map (·.1))=true→∀ci∈l.map (fun p=>cI p.1),VV P (eL (pre++l) N) N ci
 | [],_,_,_,_,ci,h=>by cases h
 |(n,c)::l,pre,.cons hv ht,hp,ha,ci,h=>by
  rw[List.map_cons,List.mem_cons]at h
  rcases h with h|h
  ·subst h;exact hv N (fun ls=>xv (hp (n,c) (zzl ..)))
  simp only[List.map_cons,Sd,zzj]at ha;have:=yB (N:=N) (pre:=pre++[(n,c)]) ht (fun p hm=>by
   rw[List.all_append,hp p (zzm _ hm),Bool.true_and];have h1:=List.all_eq_true.1 ha.1 p.1 (List.mem_map.2 ⟨p,hm,rfl⟩);simpa using h1) ha.2 ci h
  rw[List.append_assoc]at this;exact this
theorem vti {P:Program} (hmix:P.follows .mixedOrders=true) (imm old:Bool) (ie:List Nat) {n:Nat} {c:Nat→List PV→Option (List PV)} (ks:List Nat) (t:∀ O:Alg,Ags O→O.M) (l:List (Nat×(Nat→List PV→Option (List PV)))) (hg:Gs P l) (ha:Sd (l.map (·.1))=true)
    (hc:∀N ls,c N ls=QH ks ls (t (std (eL l N) N) (xOf ls)))
    (hx:∀(O:Alg) (x:Ags O),XF (O:=O) P { gam:=l.map (fun p=>cI p.1),imm:=imm,old:=old,ie:=ie } (cI n).ow true [] n [] (xr x ks 0)=t O x):Vd P n c:=fun N h =>
  CZ hmix (E:=eL l N) (N:=N) (cfg:={ gam:=l.map (fun p=>cI p.1),imm:=imm,old:=old,ie:=ie }) (ci:=cI n) (yB (pre:=[]) hg (fun _ _=>rfl) ha) (hc N) (fun ls=>hx _ _) h
theorem vt {P:Program} (hmix:P.follows .mixedOrders=true) {n:Nat} {c:Nat→List PV→Option (List PV)} (ks:List Nat) (t:∀ O:Alg,Ags O→O.M) (l:List (Nat×(Nat→List PV→Option (List PV)))) (hg:Gs P l) (ha:Sd (l.map (·.1))=true)
    (hc:∀N ls,c N ls=QH ks ls (t (std (eL l N) N) (xOf ls)))
    (hx:∀(O:Alg) (x:Ags O),XF (O:=O) P { gam:=l.map (fun p=>cI p.1) } (cI n).ow true [] n [] (xr x ks 0)=t O x):Vd P n c:=vti hmix false false [] ks t l hg ha hc hx
theorem vE {P:Program} {n:Nat} {c:Nat→List PV→Option (List PV)} (v:Vd P n c) {E:Env} {M:Nat} (N:Nat) (h:∀ls,E n [] ls=c N ls):VV P E M (cI n):=v N h
def rB (xs:List Bool):Rows:=xs.map fun n=>[PV.bool n]
theorem A6 {n:Int} (h1 : -9223372036854775808≤n) (h2:n≤9223372036854775807):IntKind.i64.wrap n=n:=by
 unfold IntKind.wrap;simp[IntKind.signed,IntKind.bits];omega
theorem AE (b:Bool) (x y:List PV) (k:List PV→Option (List PV)):(cond b (some x) (some y):Option (List PV)).bind k=k (cond b x y):=by grind
theorem ACt (b:Bool) (x y:List PV) (j:Nat):pvB (AA (cond b x y) j)=cond b (pvB (AA x j)) (pvB (AA y j)):=by grind
theorem ADD (b:Bool) (x y:List PV) (j:Nat):pvI (AA (cond b x y) j)=cond b (pvI (AA x j)) (pvI (AA y j)):=by grind
theorem AAD (b:Bool) (x y:List PV) (j:Nat):pvS (AA (cond b x y) j)=cond b (pvS (AA x j)) (pvS (AA y j)):=by grind
theorem ADM (b:Bool) (x y:List PV) (j:Nat):pvL (AA (cond b x y) j)=cond b (pvL (AA x j)) (pvL (AA y j)):=by grind
theorem jN (b p:Bool):cond b p false=(b&&p):=by simp_all
theorem ADY (b p:Bool):cond b true p=(b||p):=by rfl
theorem ACh (b p:Bool):cond b false p=(!b&&p):=by simp_all
theorem ADH (b p:Bool):cond b p true=(!b||p):=by simp_all
theorem ACG (b:Bool) (x y:List PV):cond b (some x) (some y)=some (cond b x y):=by grind
theorem ACV {α:Type} (b:Bool) (x:α):cond b x x=x:=by simp_all
theorem AB6 (b p q:Bool):cond b [PV.bool p] [PV.bool q]=[PV.bool (cond b p q)]:=by grind
theorem xf (p:PV) (r:List PV):AA (p::r) 0=p:=rfl
theorem wV (p:PV) (r:List PV) (j:Nat):AA (p::r) (j+1)=AA r j:=by rfl
def gn {St:Type} (body:Nat→St→List PV ⊕ St) (fin:St→List PV):Nat→Nat→St→List PV
 |0,_,s=>fin s
 |k+1,i,s=>match body i s with
  | .inl r=>r
  | .inr s'=>gn body fin k (i+1) s'
theorem nE {St:Type} {F:(List AQ→Option (List PV))→List PV→Option (List PV)} {len:Nat} {enc:Nat→St→List AQ} {body:Nat→St→List PV ⊕ St} {fin:St→List PV} (I:Nat→St→Prop)
    (h0:∀s self,I len s→F self ((enc len s).map Leaf.pv)=some (fin s))
    (h1:∀i s self,i<len→I i s→F self ((enc i s).map Leaf.pv)=(match body i s with | .inl r=>some r | .inr s'=>self (enc (i+1) s'))∧∀s',body i s=.inr s'→I (i+1) s') :
    ∀(k i:Nat) (s:St) (n:Nat),i+k=len→k<n→I i s→C1 F n ((enc i s).map Leaf.pv)=some (gn body fin k i s)
  |0,i,s,n,hk,hn,hi=>by
    obtain⟨n,rfl⟩:∃m,n=m+1:=⟨n-1,by omega⟩;obtain rfl:i=len:=by omega
    exact h0 s _ hi
  |k+1,i,s,n,hk,hn,hi=>by
    obtain⟨n,rfl⟩:∃m,n=m+1:=⟨n-1,by omega⟩;obtain⟨h2,h3⟩:=h1 i s (fun ls=>C1 F n (ls.map Leaf.pv)) (by omega) hi;show F _ _=_;rw[h2];simp only[gn];cases hb:body i s with
    |inl r=>rfl
    |inr s'=>exact nE I h0 h1 k (i+1) s' n (by omega) (by omega) (h3 s' hb)
theorem AN {F:(List AQ→Option (List PV))→List PV→Option (List PV)} {n:Nat} {c r:List PV} {k:List PV→Option (List PV)} {g:Option (List PV)} (h:C1 F n c=some r) (hk:k r=g):(C1 F n c).bind k=g:=by
 simp_all
def Ax (ans:Nat→Option (List PV)):Nat→Nat→Option (List PV)
 |0,_=>none
 |k+1,i=>match ans i with
  |some r=>some r
  |none=>Ax ans k (i+1)
def Qq:Option (List PV)→List PV
 |some r=>.int 0::r
 |none=>[.int 1]
theorem B1 {F:(List AQ→Option (List PV))→List PV→Option (List PV)} {len:Nat} (ans:Nat→Option (List PV))
    (h0:∀self,F self [.int (len:Int)]=some [.int 1]) (h1:∀i self,i<len→F self [.int (i:Int)]=match ans i with|some r=>some (.int 0::r)|none=>self [.int ((i:Int)+1)]) :
    ∀(k i n:Nat),i+k=len→k<n→C1 F n [.int (i:Int)]=some (Qq (Ax ans k i))
  |0,i,n,hk,hn=>by
    obtain⟨n,rfl⟩:∃m,n=m+1:=⟨n-1,by omega⟩;obtain rfl:i=len:=by omega
    exact h0 _
  |k+1,i,n,hk,hn=>by
    obtain⟨n,rfl⟩:∃m,n=m+1:=⟨n-1,by omega⟩;have h2:=h1 i (fun ls=>C1 F n (ls.map Leaf.pv)) (by omega);show F _ _=_;rw[h2];simp only[Ax];cases ha:ans i with
    |some r=>rfl
    |none =>
      have:=B1 ans h0 h1 k (i+1) n (by omega) (by omega);trivial
def A8 (bad:Nat→Bool) (k i:Nat):Bool:=(List.range' i k).any bad
theorem Kn (bad:Nat→Bool) (i:Nat):A8 bad 0 i=false:=rfl
theorem Bz (bad:Nat→Bool) (k i:Nat):A8 bad (k+1) i=(bad i||A8 bad k (i+1)):=by rfl
theorem mn (bad:Nat→Bool) (r:List PV):∀(k i:Nat),Ax (fun j=>cond (bad j) (some r) none) k i=cond (A8 bad k i) (some r) none
 |0,i=>rfl
 |k+1,i=>by
  rw[Bz];simp only[Ax];cases hb:bad i
  ·rw[Bool.false_or];exact mn bad r k (i+1)
  rfl
theorem Xz {f g:Nat→Bool}:∀(k i:Nat),(∀j,i≤j→j<i+k→f j=g j)→A8 f k i=A8 g k i
 |0,i,_=>rfl
 |k+1,i,h=>by rw[Bz,Bz,h i (Nat.le_refl _) (by omega),Xz k (i+1) (fun j h1 h2=>h j (by omega) (by omega))]
theorem EP {f:Nat→Bool} {k i:Nat}:A8 f k i=false↔∀j,i≤j→j<i+k→f j=false:=by
 induction k generalizing i with
 |zero=>simp[Kn];omega
 |succ k ih =>
  rw[Bz,Bool.or_eq_false_iff,ih]
  grind
theorem NL {F:(List AQ→Option (List PV))→List PV→Option (List PV)} {len:Nat} (bad:Nat→Bool) (r:List PV)
    (h0:∀self,F self [.int (len:Int)]=some [.int 1]) (h1:∀i self,i<len→F self [.int (i:Int)]=cond (bad i) (some (.int 0::r)) (self [.int ((i:Int)+1)])) (n:Nat) (hn:len<n) :
    C1 F n [.int 0]=some (cond (A8 bad len 0) (.int 0::r) [.int 1]):=by
  have:=B1 (F:=F) (len:=len) (fun j=>cond (bad j) (some r) none) h0 (fun i self hi=>by grind) len 0 n (by omega) hn;rw[show(0:Int)=((0:Nat):Int)from rfl,this,mn];cases A8 bad len 0<;>rfl
theorem A9 {i:Nat} (h:i≤1099511627776):IntKind.i64.wrap ((i:Int)+1)=(i:Int)+1:=A6 (by omega) (by omega)
theorem AJ {i len:Nat} (h:i<len):iIn (i:Int) (len:Int)=true:=by simp[iIn];omega
theorem Aa {i len:Nat} (h:i<len):iLt (i:Int) (len:Int)=true:=by simp[iLt];omega
theorem Aj (len:Nat):iLt (len:Int) (len:Int)=false:=by simp[iLt]
theorem rP {F:(List AQ→Option (List PV))→List PV→Option (List PV)} {len:Nat} (enc:Nat→List AQ) (bad:Nat→Bool) (r fin:List PV)
    (h0:∀self,F self ((enc len).map Leaf.pv)=some fin) (h1:∀i self,i<len→F self ((enc i).map Leaf.pv)=cond (bad i) (some r) (self (enc (i+1)))) (n:Nat) (hn:len<n) :
    C1 F n ((enc 0).map Leaf.pv)=some (cond (A8 bad len 0) r fin):=by
  have main:∀(k i n:Nat),i+k=len→k<n→C1 F n ((enc i).map Leaf.pv)=some (cond (A8 bad k i) r fin):=by
    intro k
    induction k with
    |zero =>
      intro i n hk hn;obtain⟨n,rfl⟩:∃m,n=m+1:=⟨n-1,by omega⟩;obtain rfl:i=len:=by omega
      exact h0 _
    |succ k ih =>
      intro i n hk hn;obtain⟨n,rfl⟩:∃m,n=m+1:=⟨n-1,by omega⟩;show F _ _=_;rw[h1 i _ (by omega),Bz]
      grind
  simp_all
theorem ABp (k i:Nat):A8 (fun _=>false) k i=false:=EP.2 fun _ _ _=>rfl
theorem BP {F:(List AQ→Option (List PV))→List PV→Option (List PV)} {len:Nat} (enc:Nat→List AQ) (fin:List PV)
    (h0:∀self,F self ((enc len).map Leaf.pv)=some fin) (h1:∀i self,i<len→F self ((enc i).map Leaf.pv)=self (enc (i+1))) (n:Nat) (hn:len<n) :
    C1 F n ((enc 0).map Leaf.pv)=some fin:=by
  have:=rP (F:=F) enc (fun _=>false) [] fin h0 h1 n hn;rw[ABp]at this;exact this
def DS (p:Nat→Bool):Nat→Option (List PV):=fun j=>cond (p j) (some [.int (j:Int)]) none
def Dj (p:Nat→Bool) (k:Nat):Int:=match Ax (DS p) k 0 with
 |some r=>pvI (AA r 0)
 |none => -1
theorem di (p:Nat→Bool):∀k i,iLe 0 (match Ax (DS p) k i with|some r=>pvI (AA r 0)|none => -1)=A8 p k i
 |0,i=>rfl
 |k+1,i=>by
  rw[Bz];simp only[Ax,DS];cases h:p i
  ·rw[Bool.false_or];exact di p k (i+1)
  rfl
theorem HC (p:Nat→Bool) (k:Nat):iLe 0 (Dj p k)=A8 p k 0:=di p k 0
theorem AAW {i len:Nat} (h:i≤len):iRg 0 (i:Int) (len:Int)=true:=by simp[iRg];omega
theorem C4 {n b:Nat} (h:n≤4194304) (hb:b≤4096):iSm (n:Int) b=true:=by
 have:n*b≤4194304*4096:=Nat.mul_le_mul h hb;simp only[iSm,decide_eq_true_eq];omega
def atI (L:Rows) (i j:Nat):Int:=pvI (AD L i j)
theorem Dc (L:Rows) (i j:Nat):pvI (AD L i j)=atI L i j:=rfl
theorem yu {L:Rows} {i j k:Nat} (h:j<i):atI (L.take i) j k=atI L j k:=by
 unfold atI AD AB
 simp_all
theorem wx (L:Rows) (i:Nat):(L.take (i:Int).toNat).drop (0:Int).toNat=L.take i:=by simp
def Ce (p:Nat→Bool):Nat→Int
 |0=>0
 |i+1=>cond (p i) (Ce p i+1) (Ce p i)
theorem pE (p:Nat→Bool):∀i,0≤Ce p i∧Ce p i≤(i:Int)
 |0=>by simp[Ce]
 |i+1=>by
  have:=pE p i;unfold Ce
  grind
theorem sG (p:Nat→Bool) {i:Nat} (h:i≤1099511627776):IntKind.i64.wrap (Ce p i+1)=Ce p i+1:=by
 have:=pE p i;exact A6 (by omega) (by omega)
theorem mG {p q:Nat→Bool}:∀i,(∀j,j<i→p j=q j)→Ce p i=Ce q i
 |0,_=>rfl
 |i+1,h=>by
  unfold Ce;rw[h i (by omega),mG i (fun j hj=>h j (by omega))]
theorem qh {p q:Nat→Bool}:∀i,(∀j,j<i→p j=true→q j=true)→Ce p i≤Ce q i
 |0,_=>by simp[Ce]
 |i+1,h=>by
  have h1:=qh i (fun j hj=>h j (by omega));have h2:=h i (by omega);unfold Ce
  grind
theorem xS {p q:Nat→Bool}:∀i,(∀j,j<i→p j=true→q j=true)→Ce p i=Ce q i→∀j,j<i→p j=q j
 |0,_,_=>fun j hj=>by omega
 |i+1,h,he=>by
  have h1:=qh i (fun j hj=>h j (by omega));have h2:=h i (by omega);unfold Ce at he;intro j hj;have hpq:p i=q i∧Ce p i=Ce q i:=by
   grind
  rcases Nat.lt_or_ge j i with hji|hji
  ·exact xS i (fun j hj=>h j (by omega)) hpq.2 j hji
  grind
theorem xa {p q:Nat→Bool}:∀i,(∀j,j<i→p j=true→q j=false)→Ce (fun j=>p j||q j) i=Ce p i+Ce q i
 |0,_=>rfl
 |i+1,h=>by
  have h1:=xa i (fun j hj=>h j (by omega));have h2:=h i (by omega);unfold Ce
  grind
theorem ql (s:Int):∀(i:Nat),0≤s→Ce (fun j=>s==(j:Int)+1) i=cond (!(s==0)&&iLe s (i:Int)) 1 0
 |0,hs=>by
  have:(!(s==0)&&iLe s ((0:Nat):Int))=false:=by
   rw[Bool.and_eq_false_iff]
   by_cases h:s=0
   ·simp_all
   exact .inr (by simp only[iLe,decide_eq_false_iff_not];omega)
  rw[this];rfl
 |i+1,hs=>by
  unfold Ce;rw[ql s i hs]
  by_cases h:s=(i:Int)+1
  ·have e1:(s==(i:Int)+1)=true:=by simp[h]
   have e2:iLe s (i:Int)=false:=by simp only[iLe,decide_eq_false_iff_not];omega
   have e3:iLe s ((i+1:Nat):Int)=true:=by simp only[iLe,decide_eq_true_eq];omega
   grind
  have e1:(s==(i:Int)+1)=false:=by simp[h]
  have e2:iLe s (i:Int)=iLe s ((i+1:Nat):Int):=by
   unfold iLe
   grind
  grind
theorem bE (f:Nat→Bool):∀(k i:Nat),A8 f (k+1) i=(A8 f k i||f (i+k))
 |0,i=>by rw[Bz,Kn,Kn];simp
 |k+1,i=>by rw[Bz,bE f k (i+1),Bz f k i,Bool.or_assoc];grind
theorem gl (f:Nat→Bool):∀(k i:Nat),A8 f k (i+1)=A8 (fun j=>f (j+1)) k i
 |0,i=>rfl
 |k+1,i=>by rw[Bz,Bz,gl f k (i+1)]
def MF (p:Int→Bool) (L:Rows):Bool:=A8 (fun i=>p (atI L i 0)) L.length 0
theorem Pp (p:Int→Bool):∀(L:Rows),MF p L=L.any fun r=>p (pvI (AA r 0))
 | []=>rfl
 |r::L=>by
  have ih:=Pp p L;unfold MF at ih⊢;rw[List.length_cons,Bz,gl,List.any_cons,←ih];rfl
theorem pU (p:Int→Bool) (a b:Rows):MF p (a++b)=(MF p a||MF p b):=by
 rw[Pp,Pp,Pp,List.any_append]
theorem PXb:(∀ {α β:Type} (f:α→β) (a:α) (l:List α),List.map f (a::l)=f a::List.map f l)∧(∀ {α β:Type} (f:α→β),List.map f []=[]) ∧
    (∀i:Int,Leaf.pv (.int i:AQ)=.int i)∧(∀i:Bool,Leaf.pv (.bool i:AQ)=.bool i)∧(∀i:ByteArray,Leaf.pv (.str i:AQ)=.str i)∧(∀i:Rows,Leaf.pv (.rows i:AQ)=.rows i) ∧
    (∀{α β:Type} (a:α) (f:α→Option β),(some a).bind f=f a)∧(∀(p:PV) (r:List PV),AA (p::r) 0=p)∧(∀(p:PV) (r:List PV) (j:Nat),AA (p::r) (j+1)=AA r j) ∧
    (∀n:Int,pvI (.int n)=n)∧(∀n:Bool,pvB (.bool n)=n)∧(∀n:ByteArray,pvS (.str n)=n)∧(∀n:Rows,pvL (.rows n)=n) ∧
    (∀b p:Bool,cond b p false=(b&&p))∧(∀b p:Bool,cond b true p=(b||p))∧(∀{α:Type} (a b:α),cond true a b=a)∧(∀{α:Type} (a b:α),cond false a b=b) ∧
    (∀a b:Bool,(a&&(a&&b))=(a&&b))∧(∀a:Bool,(a&&a)=a)∧(∀a b:Bool,(a||(a||b))=(a||b))∧(∀a:Bool,(a||a)=a) ∧
    (∀a:Bool,(a||true)=true)∧(∀a:Bool,(a||false)=a)∧(∀a:Bool,(true||a)=true)∧(∀a:Bool,(false||a)=a) ∧
    (∀a:Bool,(a&&true)=a)∧(∀a:Bool,(a&&false)=false)∧(∀a:Bool,(true&&a)=a)∧(∀a:Bool,(false&&a)=false)∧((!true)=false)∧((!false)=true)∧(∀a:Bool,(!(!a))=a) ∧
    (∀n:Nat,(n:Int).toNat=n)∧(∀{O:Alg} (x:Ags O) (j:Nat),xr x [] j=[]) ∧
    (∀{O:Alg} (x:Ags O) (ks:List Nat) (j:Nat),xr x (0::ks) j=.int (x.I j)::xr x ks (j+1))∧(∀{O:Alg} (x:Ags O) (ks:List Nat) (j:Nat),xr x (1::ks) j=.bool (x.B j)::xr x ks (j+1)) ∧
    (∀{O:Alg} (x:Ags O) (ks:List Nat) (j:Nat),xr x (2::ks) j=.str (x.S j)::xr x ks (j+1))∧(∀{O:Alg} (x:Ags O) (ks:List Nat) (j:Nat),xr x (3::ks) j=.rows (x.L j)::xr x ks (j+1)) ∧
    (∀(O:Alg) (c:O.C) (j:Nat),cr O c [] j=[])∧(∀(O:Alg) (c:O.C) (ks:List Nat) (j:Nat),cr O c (0::ks) j=.int (O.c c j)::cr O c ks (j+1))∧(∀(O:Alg) (c:O.C) (ks:List Nat) (j:Nat),cr O c (1::ks) j=.bool (O.p c j)::cr O c ks (j+1)) ∧
    (∀(O:Alg) (c:O.C) (ks:List Nat) (j:Nat),cr O c (2::ks) j=.str (O.cS c j)::cr O c ks (j+1))∧(∀(O:Alg) (c:O.C) (ks:List Nat) (j:Nat),cr O c (3::ks) j=.rows (O.k c j)::cr O c ks (j+1)) ∧
    (∀(O:Alg) (l:O.L) (i:O.I) (j:Nat),rr O l i [] j=[])∧(∀(O:Alg) (l:O.L) (i:O.I) (ks:List Nat) (j:Nat),rr O l i (0::ks) j=.int (O.r l i j)::rr O l i ks (j+1))∧(∀(O:Alg) (l:O.L) (i:O.I) (ks:List Nat) (j:Nat),rr O l i (1::ks) j=.bool (O.rB l i j)::rr O l i ks (j+1)) ∧
    (∀(O:Alg) (l:O.L) (i:O.I) (ks:List Nat) (j:Nat),rr O l i (2::ks) j=.str (O.rS l i j)::rr O l i ks (j+1))∧(∀(O:Alg) (l:O.L) (i:O.I) (ks:List Nat) (j:Nat),rr O l i (3::ks) j=.rows (O.rL l i j)::rr O l i ks (j+1)) ∧
    (kI=[0,0,0,0,0,0,0,0,0,0,0,0,0,0,3,0,3,3,1,3,1,0,0,0,3,0,0,0])∧(kR=[2,0,0,0,0,0,0,0,1,0,0,0,0,3])∧(kM=[2,0,0,0,0,0,0,0,1,0,0,0,0,3,0,0,1,3,0,0,0,0,0]) ∧
    (∀(O:Alg) (b:List O.Lf),ap O [] b=b)∧(∀(O:Alg) (x:O.Lf) (a b:List O.Lf),ap O (x::a) b=x::ap O a b) ∧
    (∀{α:Type} (x:α) (a b:List α),x::a++b=x::(a++b))∧(∀{α:Type} (b:List α),[]++b=b):=by
  repeat' apply And.intro
  all_goals first|decide|(intros;rfl)|exact wV|exact jN|exact ADY|exact Int.toNat_natCast
theorem PXc:(∀ (b:Bool) (x y:List PV) (j:Nat),pvB (AA (cond b x y) j)=cond b (pvB (AA x j)) (pvB (AA y j)))∧(∀ (b:Bool) (x y:List PV) (j:Nat),pvI (AA (cond b x y) j)=cond b (pvI (AA x j)) (pvI (AA y j))) ∧
    (∀(b:Bool) (x y:List PV) (j:Nat),pvS (AA (cond b x y) j)=cond b (pvS (AA x j)) (pvS (AA y j)))∧(∀(b:Bool) (x y:List PV) (j:Nat),pvL (AA (cond b x y) j)=cond b (pvL (AA x j)) (pvL (AA y j))):=⟨ACt,ADD,AAD,ADM⟩
theorem PXn:(∀a b:Bool,(!(a||b))=(!a && !b))∧(∀a b:Bool,(!(a&&b))=(!a || !b))∧(∀b p:Bool,cond b false p=(!b&&p))∧(∀b p:Bool,cond b p true=(!b||p)):=⟨by decide,by decide,ACh,ADH⟩
structure Inn where
 side:Int
 target:Int
 overs:Int
 runs:Int
 wickets:Int
 wides:Int
 noballs:Int
 byes:Int
 legbyes:Int
 pens:Int
 complete:Int
 inover:Int
 striker:Int
 other:Int
 batters:Rows
 bowler:Int
 bowlers:Rows
 before:Rows
 fresh:Bool
 bowled:Rows
 freehit:Bool
 ballage:Int
 keeper:Int
 outside:Int
 subs:Rows
 rev1:Int
 rev2:Int
 ending:Int
structure Rul where
 name:ByteArray
 side:Int
 innings:Int
 overs:Int
 balls:Int
 quota:Int
 wide:Int
 noball:Int
 freehit:Bool
 newball:Int
 followon:Int
 reviews:Int
 outside:Int
 power:Rows
structure Del where
 type:Int
 source:Int
 runs:Int
 short:Int
 boundary:Int
 crossed:Bool
 how:Int
 victim:Int
 fielder:Int
 second:Int
 sub:Bool
 sector:Int
structure Ev where
 kind:Int
 side:Int
 player:Int
 other:Int
 yes:Bool
 runs:Int
 overs:Int
 ball:Del
def Inn.ls (s:Inn):List PV:=[.int s.side,.int s.target,.int s.overs,.int s.runs,.int s.wickets,.int s.wides,.int s.noballs,.int s.byes,.int s.legbyes,.int s.pens,.int s.complete,.int s.inover,.int s.striker,.int s.other,.rows s.batters,.int s.bowler,.rows s.bowlers,.rows s.before,.bool s.fresh,.rows s.bowled,.bool s.freehit,.int s.ballage,.int s.keeper,.int s.outside,.rows s.subs,.int s.rev1,.int s.rev2,.int s.ending]
def Rul.ls (r:Rul):List PV:=[.str r.name,.int r.side,.int r.innings,.int r.overs,.int r.balls,.int r.quota,.int r.wide,.int r.noball,.bool r.freehit,.int r.newball,.int r.followon,.int r.reviews,.int r.outside,.rows r.power]
def Del.ls (d:Del):List PV:=[.int d.type,.int d.source,.int d.runs,.int d.short,.int d.boundary,.bool d.crossed,.int d.how,.int d.victim,.int d.fielder,.int d.second,.bool d.sub,.int d.sector]
def BZ (x:Inn×Int):List PV:=[.int x.1.side,.int x.1.target,.int x.1.overs,.int x.1.runs,.int x.1.wickets,.int x.1.wides,.int x.1.noballs,.int x.1.byes,.int x.1.legbyes,.int x.1.pens,.int x.1.complete,.int x.1.inover,.int x.1.striker,.int x.1.other,.rows x.1.batters,.int x.1.bowler,.rows x.1.bowlers,.rows x.1.before,.bool x.1.fresh,.rows x.1.bowled,.bool x.1.freehit,.int x.1.ballage,.int x.1.keeper,.int x.1.outside,.rows x.1.subs,.int x.1.rev1,.int x.1.rev2,.int x.1.ending,.int x.2]
structure Fit (bt bw bf bd sb:Rows):Prop where
 bt:bt.length≤1048576
 bw:bw.length≤1048576
 bf:bf.length≤1048576
 bd:bd.length≤1048576
 sb:sb.length≤1048576
theorem Fit.bw' {bt bw bf bd sb:Rows} (h:Fit bt bw bf bd sb):bw.length≤1048576:=h.bw
theorem ACJ {L:Rows} {b:Nat} (h:L.length≤1048576) (hb:b≤4096):iSm (L.length:Int) b=true:=C4 (by omega) hb
abbrev Inn.Fit (s:Inn):Prop:=Px.Fit s.batters s.bowlers s.before s.bowled s.subs
def inR (p:Int) (n:Nat):Bool:=iLe 1 p&&iLe p (n:Int)
theorem M9 {p:Int} {n:Nat} (h:inR p n=true) (hn:n≤1048576):iIn (IntKind.i64.wrap (p-1)) (n:Int)=true:=by
 simp only[inR,iLe,zzj,decide_eq_true_eq]at h;rw[A6 (by omega) (by omega)];simp only[iIn,decide_eq_true_eq];omega
theorem ACZ (b:Bool) (x y z:Int):(cond b x y==z)=cond b (x==z) (y==z):=by grind
theorem ACD (b:Bool) (x y:Int):cond b [PV.int x] [PV.int y]=[PV.int (cond b x y)]:=by grind
theorem RT:((0:Nat):Int)=0:=rfl
theorem qJ:((1:Nat):Int)=1:=rfl
theorem ACm:((2:Nat):Int)=2:=rfl
theorem ACi:((3:Nat):Int)=3:=rfl
theorem ABY (b x:Bool):cond b b x=(b||x):=by simp_all
theorem Inn.eta (s:Inn):Inn.mk s.side s.target s.overs s.runs s.wickets s.wides s.noballs s.byes s.legbyes s.pens s.complete s.inover s.striker s.other s.batters s.bowler s.bowlers s.before s.fresh s.bowled s.freehit s.ballage s.keeper s.outside s.subs s.rev1 s.rev2 s.ending=s:=rfl
theorem Rul.eta (r:Rul):Rul.mk r.name r.side r.innings r.overs r.balls r.quota r.wide r.noball r.freehit r.newball r.followon r.reviews r.outside r.power=r:=rfl
theorem AB7 {p:Int} {n:Nat} {X Y:Option (List PV)} (hn:n≤1048576):cond (inR p n) (cond (iIn (IntKind.i64.wrap (p-1)) (n:Int)) X none) Y=cond (inR p n) X Y:=by
 cases h:inR p n
 ·rfl
 rw[M9 h hn];rfl
def ix (p:Int):Nat:=(IntKind.i64.wrap (p-1)).toNat
def Pw (L:Rows) (p v:Int):Rows:=L.set (ix p) (putRow (AB L (ix p)) 0 [.int v])
def yz (L:Rows) (p:Int) (v:Bool):Rows:=L.set (ix p) (putRow (AB L (ix p)) 0 [.bool v])
theorem NS (L:Rows) (p v:Int):(Pw L p v).length=L.length:=by simp[Pw]
theorem zM (L:Rows) (p:Int) (v:Bool):(yz L p v).length=L.length:=by simp[yz]
theorem BN {L:Rows} {b:Nat} (h:L.length≤1048576) (hb:b≤4096):GA b [.rows L]=some [.rows L]:=by
 have h1:=C4 (n:=L.length) (b:=b) (by omega) hb;have:cE L.length b=true:=by
  simp only[iSm,decide_eq_true_eq]at h1;simp only[cE,decide_eq_true_eq];omega
 simp only[GA,this]
def DX (L:Rows):Bool:=A8 (fun i => !(atI L i 0==0)) L.length 0
def JN (L:Rows) (s n:Int):Bool:=DX L&&(s==0||n==0)
def Fd (L:Rows):Nat→Rows
 |0=>[]
 |i+1=>cond (atI L i 0==0||atI L i 0==3) (Fd L i++[[.int ((i:Int)+1)]]) (Fd L i)
theorem fe (L:Rows):∀i,(Fd L i).length≤i
 |0=>Nat.le_refl _
 |i+1=>by
  have:=fe L i;unfold Fd
  grind
theorem PXm:(∀ (b:Bool) (x y:List PV),cond b (some x) (some y)=some (cond b x y))∧(∀ {α:Type} (b:Bool) (x:α),cond b x x=x)∧(∀ b x:Bool,cond b b x=(b||x))∧(((0:Nat):Int)=0)∧(((1:Nat):Int)=1)∧(((2:Nat):Int)=2)∧(((3:Nat):Int)=3) ∧
    (∀(b:Bool) (x y:Int),cond b [PV.int x] [PV.int y]=[PV.int (cond b x y)])∧(∀(b x y:Bool),cond b [PV.bool x] [PV.bool y]=[PV.bool (cond b x y)])∧(∀{α:Type} (l:List α) (i:Nat) (a:α),(l.set i a).length=l.length) ∧
    (∀(b:Bool) (x y z:Int),(cond b x y==z)=cond b (x==z) (y==z))∧(∀x:Int,(x==x)=true)∧(∀x:Bool,(x==x)=true) ∧
    (∀s:Inn,s.ls=[.int s.side,.int s.target,.int s.overs,.int s.runs,.int s.wickets,.int s.wides,.int s.noballs,.int s.byes,.int s.legbyes,.int s.pens,.int s.complete,.int s.inover,.int s.striker,.int s.other,.rows s.batters,.int s.bowler,.rows s.bowlers,.rows s.before,.bool s.fresh,.rows s.bowled,.bool s.freehit,.int s.ballage,.int s.keeper,.int s.outside,.rows s.subs,.int s.rev1,.int s.rev2,.int s.ending]) ∧
    (∀x:Inn×Int,BZ x=[.int x.1.side,.int x.1.target,.int x.1.overs,.int x.1.runs,.int x.1.wickets,.int x.1.wides,.int x.1.noballs,.int x.1.byes,.int x.1.legbyes,.int x.1.pens,.int x.1.complete,.int x.1.inover,.int x.1.striker,.int x.1.other,.rows x.1.batters,.int x.1.bowler,.rows x.1.bowlers,.rows x.1.before,.bool x.1.fresh,.rows x.1.bowled,.bool x.1.freehit,.int x.1.ballage,.int x.1.keeper,.int x.1.outside,.rows x.1.subs,.int x.1.rev1,.int x.1.rev2,.int x.1.ending,.int x.2]) ∧
    (∀s:Inn,Inn.mk s.side s.target s.overs s.runs s.wickets s.wides s.noballs s.byes s.legbyes s.pens s.complete s.inover s.striker s.other s.batters s.bowler s.bowlers s.before s.fresh s.bowled s.freehit s.ballage s.keeper s.outside s.subs s.rev1 s.rev2 s.ending=s) ∧
    (∀r:Rul,Rul.mk r.name r.side r.innings r.overs r.balls r.quota r.wide r.noball r.freehit r.newball r.followon r.reviews r.outside r.power=r) :=
  ⟨ACG,ACV,ABY,RT,qJ,ACm,ACi,ACD,AB6,fun _ _ _=>List.length_set,ACZ,fun _=>beq_self_eq_true _,fun _=>beq_self_eq_true _,fun _=>rfl,fun _=>rfl,Inn.eta,Rul.eta⟩
end Go.Px
end
