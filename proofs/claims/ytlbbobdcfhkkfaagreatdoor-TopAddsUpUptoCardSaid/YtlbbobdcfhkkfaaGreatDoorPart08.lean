/- Part 8. -/
import Derived.Test.YtlbbobdcfhkkfaaGreatDoorPart07
import Derived.WalkSpells
import Derived.Lib.Bytealg
import Derived.Lib.Strings
import Derived.Lib.Join
import Derived.Lib.ItoaNum
import Derived.Below
import Derived.Sort.Grow
import Derived.Deep.Draws
set_option linter.unusedVariables false
set_option linter.unusedSimpArgs false
section
namespace Go.Px
section
variable {E:Env} {N:Nat} {P:Program} {cfg:Cfg} {n0 n0':Nz} {nt:Nat} {β β':Nat→Option Nat} {σ σ':Nat→Option (Nat×Nat)} {s s' s2:St0 E N} {a a':Act} {w w':World}
theorem Fw {give:Bool}:∀ {ts:List TypeId} {q:Nat} {ls rest:List AU} {cs:List (AC0 E N)} {h:List (Nat×HEnt (std E N))},Ao (O:=std E N) P give q ts ls=some (cs,h,rest)→Row q h∧∀ n∈AH cs,q≤n∧n<q+h.length
 | [],q,ls,rest,cs,h,he=>by
  simp only [Ao] at he;cases he;exact ⟨trivial,fun n hn=>by simp [AH] at hn⟩
 | t::ts,q,[],rest,cs,h,he=>by simp only [Ao] at he;cases he
 | t::ts,q,l::ls,rest,cs,h,he=>by
  simp only [Ao] at he
  split at he
  ·obtain ⟨⟨cs1,h1,r1⟩,e1,e2⟩:=zzo.1 he;cases e2;obtain ⟨a1,a2⟩:=Fw e1;exact ⟨a1,fun n hn=>a2 n (by simpa [AH,AC.names] using hn)⟩
  ·obtain ⟨⟨cs1,h1,r1⟩,e1,e2⟩:=zzo.1 he;cases e2;obtain ⟨a1,a2⟩:=Fw e1;exact ⟨a1,fun n hn=>a2 n (by simpa [AH,AC.names] using hn)⟩
  ·obtain ⟨⟨cs1,h1,r1⟩,e1,e2⟩:=zzo.1 he;cases e2;obtain ⟨a1,a2⟩:=Fw e1;exact ⟨a1,fun n hn=>a2 n (by simpa [AH,AC.names] using hn)⟩
  ·obtain ⟨⟨cs1,h1,r1⟩,e1,e2⟩:=zzo.1 he;cases e2;obtain ⟨a1,a2⟩:=Fw e1;exact ⟨a1,fun n hn=>a2 n (by simpa [AH,AC.names] using hn)⟩
  ·cases give with
   | false =>
    obtain ⟨⟨cs1,h1,r1⟩,e1,e2⟩:=zzo.1 he;cases e2;obtain ⟨a1,a2⟩:=Fw e1;exact ⟨a1,fun n hn=>a2 n (by simpa [AH,AC.names] using hn)⟩
   | true =>
    obtain ⟨⟨cs1,h1,r1⟩,e1,e2⟩:=zzo.1 he;cases e2;obtain ⟨a1,a2⟩:=Fw e1;refine ⟨⟨rfl,a1⟩,fun n hn=>?_⟩;simp only [AH,AC.names,List.cons_append,List.nil_append,List.mem_cons] at hn;simp only [List.length_cons]
    rcases hn with rfl | hn
    ·omega
    ·have:=a2 n hn;omega
  ·cases he
theorem Yi:∀ {ts:List TypeId} {ls r:List AU} {caps:List (Cap (std E N))},Fk (O:=std E N) ts ls=some (caps,r)→JI caps=[]
 | [],ls,r,caps,h=>by simp only [Fk] at h;cases h;rfl
 | t::ts,[],r,caps,h=>by simp [Fk] at h
 | t::ts,l::ls,r,caps,h=>by
  cases l<;>simp only [Fk] at h<;>first | cases h | skip
  obtain ⟨⟨c1,r1⟩,e1,e2⟩:=zzo.1 h;cases e2;show JI c1=[];exact Yi e1
theorem V7:∀ {ts:List TypeId} {gv:List Bool} {q:Nat} {fns:List Nat} {ls:List AU} {vs:List (AV (std E N))} {hs:List (Nat×HEnt (std E N))},BP (O:=std E N) P gv q ts fns ls=some (vs,hs)→Row q hs∧∀ v∈vs,∀ n∈v.names,q≤n∧n<q+hs.length
 | [],gv,q,fns,ls,vs,hs,h=>by
  unfold BP at h
  split at h
  ·cases h;exact ⟨trivial,fun v hv=>by simp at hv⟩
  ·rename_i hx;cases hx
  ·cases h
 | t::ts,gv,q,fns,ls,vs,hs,h=>by
  unfold BP at h
  split at h
  ·split at h
   ·split at h
    ·split at h
     ·rename_i caps _ hca;obtain ⟨⟨r,h1⟩,e1,e2⟩:=zzo.1 h;cases e2;obtain ⟨a1,a2⟩:=V7 e1;refine ⟨a1,fun v hv n hn=>?_⟩
      rcases List.mem_cons.1 hv with rfl | hv
      ·simp [AV.names,one,AH,AC.names,Yi hca] at hn
      ·exact a2 v hv n hn
     ·cases h
    ·cases h
   ·cases h
  ·split at h
   ·cases h
   ·rename_i l hl
    split at h
    ·cases h
    ·rename_i cs h1 ls1 hc;obtain ⟨⟨r,h2⟩,e1,e2⟩:=zzo.1 h;cases e2;obtain ⟨a1,a2⟩:=Fw hc;obtain ⟨b1,b2⟩:=V7 e1;refine ⟨a1.append b1,fun v hv n hn=>?_⟩;rw [List.length_append]
     rcases List.mem_cons.1 hv with rfl | hv
     ·have:=a2 n hn;omega
     ·have:=b2 v hv n hn;omega
def CS (P:Program) (own:Nat→Bool) (nw:Bool) (t:TypeId):SlotC:=match AL P t with
 | .int k=>.int k
 | .bool=>.bool
 | .str=>.str
 | .sl e=>match own e with
  | true=>.own e nw
  | false=>.imm e nw
 | .opq=>.opq nw
 | _=>.bool
theorem rM (m : Mem P n0 β σ s w) {own own' : Nat → Bool} {nw : Bool} (ho : ∀ e, own' e = true → own e = true) : ∀ {ts : List TypeId} {cs : List (AC0 E N)} {vals : List Value} {used usedE : List Nat} {ls : List AU}, EC (O := std E N) s own nw used cs = .ok ls → AX P ts cs = true → RelCs P n0 β σ s w cs vals → (∀ n ∈ usedE, n ∈ used ∧ ∀ h, s.getH n = some h → h.frozen = false) →
    ∃ u,Ht (O:=std E N) s [] usedE (ts.map (CS P own' nw)) cs=.ok (ls,u)
  | [],[],vals,used,usedE,ls,h,_,_,_=>by
    simp only [EC] at h;cases h;exact ⟨usedE,rfl⟩
  | t::ts,c::cs,v::vals,used,usedE,ls,h,hk,hr,hu=>by
    simp only [AX] at hk
    split at hk
    case h_2=>cases hk
    rename_i hk1;have goOk:∀ {l:AU} {u:List Nat},QZ l (EC (O:=std E N) s own nw u cs)=.ok ls→∃ ls2,EC (O:=std E N) s own nw u cs=.ok ls2∧ls=l::ls2:=fun {l u} h=>by
      cases hx:EC (O:=std E N) s own nw u cs with
      | ok ls2=>rw [hx] at h;simp only [QZ] at h;cases h;exact ⟨ls2,rfl,rfl⟩
      | error e=>rw [hx] at h;simp only [QZ] at h;cases h
    have fin:∀ {l:AU} {u uE:List Nat} {ls2:List AU},JC (O:=std E N) s [] usedE (CS P own' nw t) c=.ok (l,uE)→EC (O:=std E N) s own nw u cs=.ok ls2→ls=l::ls2→(∀ n∈uE,n∈u∧∀ h,s.getH n=some h→h.frozen=false)→∃ u,Ht (O:=std E N) s [] usedE ((t::ts).map (CS P own' nw)) (c::cs)=.ok (ls,u):=fun {l u uE ls2} h1 h2 h3 h4=>by
      obtain ⟨u2,h5⟩:=rM m ho h2 hk hr.2 h4;refine ⟨u2,?_⟩;simp only [List.map_cons,Ht,h1,h5,h3]
    cases c with
    | int k i =>
      simp only [EC] at h;obtain ⟨ls2,h2,h3⟩:=goOk h;cases hl:AL P t<;>rw [hl] at hk1<;>simp [BG] at hk1;refine fin (l:=.int i) (uE:=usedE) ?_ h2 h3 hu;simp [CS,hl,JC,hk1]
    | bool b =>
      simp only [EC] at h;obtain ⟨ls2,h2,h3⟩:=goOk h;cases hl:AL P t<;>rw [hl] at hk1<;>simp [BG] at hk1;refine fin (l:=.bool b) (uE:=usedE) ?_ h2 h3 hu;simp [CS,hl,JC]
    | str x =>
      simp only [EC] at h;obtain ⟨ls2,h2,h3⟩:=goOk h;cases hl:AL P t<;>rw [hl] at hk1<;>simp [BG] at hk1;refine fin (l:=.str x) (uE:=usedE) ?_ h2 h3 hu;simp [CS,hl,JC]
    | nil e =>
      simp only [EC] at h;obtain ⟨ls2,h2,h3⟩:=goOk h;cases hl:AL P t<;>rw [hl] at hk1<;>simp [BG] at hk1;subst hk1;refine fin (l:=.rows []) (uE:=usedE) ?_ h2 h3 hu;simp only [CS,hl]
      split<;>simp [JC]
    | opq n i =>
      simp only [EC] at h
      split at h
      case h_2=>cases h
      rename_i hg;obtain ⟨ls2,h2,h3⟩:=goOk h;cases hl:AL P t<;>rw [hl] at hk1<;>simp [BG] at hk1;refine fin (l:=.int i) (uE:=usedE) ?_ h2 h3 hu;simp only [CS,hl,JC,hg]
    | imm e n l =>
      simp only [EC] at h
      split at h
      case h_2=>cases h
      rename_i hg;obtain ⟨ls2,h2,h3⟩:=goOk h;have hl:AL P t=.sl e:=by
        cases hl:AL P t<;>rw [hl] at hk1<;>simp [BG] at hk1;rw [hk1]
      have hown:own' e=false:=by
        cases ho':own' e with
        | false=>rfl
        | true=>have:=ho e ho';rw [this] at hg;simp at hg
      refine fin (l:=.rows l) (uE:=usedE) ?_ h2 h3 hu;have hg2:(n || !nw)=true:=by simp only [zzj] at hg;exact hg.2
      simp [CS,hl,JC,hg2,hown]
    | own e id =>
      simp only [EC] at h;cases hh:s.getH id with
      | none=>rw [hh] at h;cases h
      | some en =>
        rw [hh] at h;simp only at h
        split at h
        case h_2=>cases h
        rename_i hg;obtain ⟨ls2,h2,h3⟩:=goOk h;simp only [zzj,Bool.not_eq_true'] at hg;obtain ⟨⟨g1,g2⟩,g3⟩:=hg;have hl:AL P t=.sl e:=by
          cases hl:AL P t<;>rw [hl] at hk1<;>simp [BG] at hk1;rw [hk1]
        have he:=(hr.1.2 en hh).1;have hm:C1 id usedE=false:=by
          cases hx:C1 id usedE with
          | false=>rfl
          | true =>
            obtain ⟨u1,u2⟩:=hu id (DL.1 hx);have u3:=DL.2 u1;have u4:=u2 en hh;rw [u3,u4] at g2;cases g2
        cases ho':own' e with
        | true =>
          have hoe:=ho e ho';have g1':en.frozen=false:=by simpa [hoe] using g1
          refine fin (l:=.rows en.l) (uE:=id::usedE) ?_ h2 h3 (fun n hn=>by
            rcases List.mem_cons.1 hn with rfl | hn
            · exact ⟨zzl,fun h' hh'=>by rw [hh] at hh';cases hh';exact g1'⟩
            · exact ⟨zzm _ (hu n hn).1,(hu n hn).2⟩)
          simp [CS,hl,JC,hh,he,g1',hm,C1,g3,ho']
        | false =>
          refine fin (l:=.rows en.l) (uE:=match en.frozen with | true=>usedE | false=>id::usedE) ?_ h2 h3 (fun n hn=>by
            cases hz:en.frozen with
            | true=>rw [hz] at hn;exact ⟨zzm _ (hu n hn).1,(hu n hn).2⟩
            | false =>
              rw [hz] at hn
              rcases List.mem_cons.1 hn with rfl | hn
              · exact ⟨zzl,fun h' hh'=>by rw [hh] at hh';cases hh';exact hz⟩
              · exact ⟨zzm _ (hu n hn).1,(hu n hn).2⟩)
          simp [CS,hl,JC,hh,he,hm,C1,g3,ho'];cases en.frozen<;>rfl
    | _=>simp only [EC] at h;cases h
  | [],_::_,_,_,_,_,_,hk,_,_=>by simp [AX] at hk
  | _::_,[],_,_,_,_,_,hk,_,_=>by simp [AX] at hk
  | _,_::_,[],_,_,_,_,_,hr,_=>hr.elim
theorem UR (cv:List PV):∀ (x y:List SlotC) (j q:Nat),AO E N cv j q (x++y)=((AO E N cv j q x).1++(AO E N cv (j+x.length) (q+(AO E N cv j q x).2.length) y).1,(AO E N cv j q x).2++(AO E N cv (j+x.length) (q+(AO E N cv j q x).2.length) y).2)
 | [],y,j,q=>rfl
 | c::x,y,j,q=>by
  have e:∀ z,AO E N cv j q (c::z)=((B9 E N cv j q c).1::(AO E N cv (j+1) (q+(B9 E N cv j q c).2.length) z).1,(B9 E N cv j q c).2++(AO E N cv (j+1) (q+(B9 E N cv j q c).2.length) z).2):=fun z=>rfl
  rw [List.cons_append,e,e,UR cv x y];simp only [List.cons_append,List.length_cons,List.length_append,List.append_assoc];rw [show j+1+x.length=j+(x.length+1) by omega,Nat.add_assoc]
theorem cg {own:Nat→Bool} {nw:Bool} {cv:List PV}:∀ {ts:List TypeId} {cs:List (AC0 E N)} {j q:Nat},AX P ts cs=true→A0 (O:=std E N) P own nw cv j q ts=some (AO E N cv j q (ts.map (CS P own nw)))
 | [],[],j,q,_=>rfl
 | t::ts,c::cs,j,q,h=>by
  simp only [AX] at h
  split at h
  case h_2=>cases h
  rename_i hk;have ih:=fun j q=>cg (own:=own) (nw:=nw) (cv:=cv) (j:=j) (q:=q) h
  cases hl:AL P t<;>rw [hl] at hk<;>(try (cases c<;>simp [BG] at hk;done))
  ·simp only [A0,hl,ih];simp [AO,Lp,F2,CS,hl]
  ·simp only [A0,hl,ih];simp [AO,Lp,F2,CS,hl]
  ·simp only [A0,hl,ih];simp [AO,Lp,F2,CS,hl]
  ·rename_i e;cases ho':own e with
   | true=>simp only [A0,hl,ih,ho'];simp [AO,Lp,F2,CS,hl,ho']
   | false=>simp only [A0,hl,ih,ho'];simp [AO,Lp,F2,CS,hl,ho']
  ·simp only [A0,hl,ih];simp [AO,Lp,F2,CS,hl]
 | [],_::_,_,_,h=>by simp [AX] at h
 | _::_,[],_,_,h=>by simp [AX] at h
theorem kN {cv:List PV}:∀ {x:List SlotC} {j q:Nat},(AO E N cv j q x).1.length=x.length
 | [],j,q=>rfl
 | c::x,j,q=>by
  have e:AO E N cv j q (c::x)=((B9 E N cv j q c).1::(AO E N cv (j+1) (q+(B9 E N cv j q c).2.length) x).1,(B9 E N cv j q c).2++(AO E N cv (j+1) (q+(B9 E N cv j q c).2.length) x).2):=rfl;rw [e];simp [kN (x:=x)]
theorem cQ {own : Nat → Bool} {nw : Bool} {cv : List PV} : ∀ {ts : List TypeId} {vs : List (Val (std E N))} {j q : Nat}, OT P ts vs = true → ∃ (l : List TypeId) (vs' : List (Val (std E N))), K7 P ts = some l ∧ AX P l ((vs.map (·.cs)).flatten) = true ∧
    Bz (O:=std E N) P own nw cv j q ts=some (vs',(AO E N cv j q (l.map (CS P own nw))).2)∧Ip P ts (AO E N cv j q (l.map (CS P own nw))).1=some vs'
  | [],[],j,q,_=>⟨[],[],rfl,rfl,rfl,rfl⟩
  | t::ts,v::vs,j,q,h=>by
    simp only [OT,zzj] at h;cases hl:AW P t with
    | none=>rw [hl] at h;simp at h
    | some l =>
      rw [hl] at h;simp only [zzj,beq_iff_eq] at h;obtain ⟨l2,vs',h1,h2,h3,h4⟩:=cQ (own:=own) (nw:=nw) (cv:=cv) (j:=j+l.length) (q:=q+(AO E N cv j q (l.map (CS P own nw))).2.length) h.2;have hb:=cg (own:=own) (nw:=nw) (cv:=cv) (j:=j) (q:=q) h.1.2;refine ⟨l++l2,{ agg:=Ad P t,cs:=(AO E N cv j q (l.map (CS P own nw))).1 }::vs',by simp [K7,hl,h1],?_,?_,?_⟩
      · have : ∀ {a b : List TypeId} {x y : List (AC0 E N)}, AX P a x = true → AX P b y = true → AX P (a ++ b) (x ++ y) = true := fun {a b x y} hx hy => by
          induction a generalizing x with
          | nil=>cases x with
            | nil=>exact hy
            | cons _ _=>simp [AX] at hx
          | cons t a ih=>cases x with
            | nil=>simp [AX] at hx
            | cons c x =>
              simp only [AX] at hx
              split at hx
              · rename_i hk;simp only [List.cons_append,AX,hk];exact ih hx
              · cases hx
        exact this h.1.2 h2
      · simp only [Bz,hl];rw [hb,List.map_append,UR,List.length_map];simp only [h3]
      · simp only [Ip,hl];rw [List.map_append,UR,List.length_map];have hlen:(AO E N cv j q (l.map (CS P own nw))).1.length=l.length:=by rw [kN,List.length_map]
        simp only;rw [← hlen,List.drop_left,List.take_left,hlen,h4]
  | [],_::_,_,_,h=>by simp [OT] at h
  | _::_,[],_,_,h=>by simp [OT] at h
theorem np {cv:List PV} {S S2:St0 E N} (hH:∀ n,S2.getH n=S.getH n) (hst:∀ nw b,StB n0 β σ S nw b→StB n0 noB σ S2 nw b):∀ {x:List SlotC} {j q:Nat} {vals:List Value},RelCs P n0 β σ S w (AO E N cv j q x).1 vals→RelCs P n0 noB σ S2 w (AO E N cv j q x).1 vals
 | [],j,q,[],h=>trivial
 | [],j,q,_::_,h=>h.elim
 | c::x,j,q,[],h=>h.elim
 | c::x,j,q,v::vals,h=>by
  have e:AO E N cv j q (c::x)=((B9 E N cv j q c).1::(AO E N cv (j+1) (q+(B9 E N cv j q c).2.length) x).1,(B9 E N cv j q c).2++(AO E N cv (j+1) (q+(B9 E N cv j q c).2.length) x).2):=rfl;rw [e] at h ⊢;refine ⟨?_,np hH hst h.2⟩;have h1:=h.1;cases c with
  | int k=>exact h1
  | bool=>exact h1
  | str=>exact h1
  | any T=>exact h1
  | opq nw=>obtain ⟨t,ht,hr⟩:=h1;exact ⟨t,ht,hr.st (hst nw)⟩
  | own e nw =>
   obtain ⟨h2,h3⟩:=h1;exact ⟨h2,fun en hen=>h3 en (by rw [← hH];exact hen)⟩
  | imm e nw=>obtain ⟨t,ht,hr⟩:=h1;exact ⟨t,ht,hr.st (hst nw)⟩
theorem ri {own:Nat→Bool} {n:Nat}:∀ {l:List (Nat×HEnt (std E N))} {h':HEnt (std E N)},AM (l.map fun (n,h)=>(n,{ h with frozen:=h.frozen || !own h.e })) n=some h'→∃ h,AM l n=some h∧h'={ h with frozen:=h.frozen || !own h.e }
 | [],h',h=>by cases h
 | (j,a)::l,h',h=>by
  show ∃ h,(match Nat.beq j n with | true=>some a | false=>AM l n)=some h∧_;change (match Nat.beq j n with | true=>some { a with frozen:=a.frozen || !own a.e } | false=>AM (l.map fun (n,h)=>(n,{ h with frozen:=h.frozen || !own h.e })) n)=some h' at h;cases hb:Nat.beq j n with
  | true=>rw [hb] at h;exact ⟨a,rfl,(Option.some.inj h).symm⟩
  | false=>rw [hb] at h;exact ri h
theorem Sub.frz (s:St0 E N) (own:Nat→Bool):Sub s (tI own s) :=
  ⟨fun n e h => ⟨e, h, rfl⟩, fun n h' h => by
      obtain ⟨h0,a,b⟩:=ri h;exact ⟨h0,a,by rw [b],by rw [b],by rw [b],fun hf=>by rw [b] at hf;simp only [Bool.or_eq_false_iff] at hf;exact hf.1⟩⟩
theorem ww (hn9 : n0.n = w.heap.size) {own : Nat → Bool} {ci : CI} (ho : ∀ e, ci.ow e = true → own e = true) {rs : List PV} {fn : Func} {hs : List (Nat × HEnt (std E N))} {ex : Ex} (hsim : Sim P n0 nt β' σ' s' a' w') (hdef : a'.defers = [])
    (x1:Ext P n0 (fun _=>True) noB σ (AY hs) w β' σ' s' w') (hk:tU (O:=std E N) P own ci.nw fn ex s'=some rs):bodyPost P fn (Ret (E:=E) (N:=N) P ci n0 σ (AY hs) w fn rs) (fZ ex) a' w':=by
  unfold tU at hk
  split at hk
  · cases hk
  · cases hk
  rename_i vs' hex hvs
  split at hk
  case h_2=>cases hk
  case h_3=>cases hk
  rename_i ls' hres hout;have hrs:rs=ls'.map Leaf.pv:=(Option.some.inj hk).symm;obtain ⟨z,zs,r1,r2,r3⟩:=XN hsim hvs;have hfin:Ret (E:=E) (N:=N) P ci n0 σ (AY hs) w fn rs (.returned z) w':=by
    refine ⟨x1.os,x1.tape,x1.output,x1.size,fun b hb hm=>(x1.frame b hb hm).elim id (fun h=>by have:=h.1;omega),fun q=>?_⟩;obtain ⟨l,vs2,b1,b2,b3,b4⟩:=cQ (own:=ci.ow) (nw:=ci.nw) (cv:=rs) (j:=0) (q:=q) hres;obtain ⟨u,henc⟩:=rM hsim.M ho (usedE:=[]) hout b2 r2.flat (fun n hn=>by simp at hn);have hj:=wt (s:=s') (a:=a') (w:=w') (L:=q) (base:={ tm:=.e,bx:=[],hp:=[],st:=q }) hsim
      (fun n tv hn=>by
        have hn:Dc (.e:TM (TV (std E N))) n=some tv:=hn;rw [Wx] at hn;cases hn)
      (fun n e he=>by cases he) (fun n e he=>by cases he)
      (rs:=l.map (CS P ci.ow ci.nw)) r2.flat (sl:=[]) (fun b c hm=>by simp at hm) henc (ls2:=[]) rfl (cv:=rs) (j:=0) (by rw [hrs,List.append_nil];exact Qv (pre:=[]))
    obtain ⟨σ2,S,hS,j1,j2,j3⟩:=hj;have hSH:∀ n,S.getH n=AM (AO E N rs 0 q (l.map (CS P ci.ow ci.nw))).2 n:=fun n=>by
      rw [hS];show AM (_++[]) n=_;rw [List.append_nil]
    have hSB:∀ n,S.getB n=none:=fun n=>by rw [hS];rfl
    generalize hD:(AO E N rs 0 q (l.map (CS P ci.ow ci.nw))).2=D at *
    have hH2:∀ n,(AY D).getH n=S.getH n:=fun n=>(hSH n).symm
    have inM:∀ b,InM noB σ2 (AY D) b→InM β' σ2 S b:=fun b hb=>by
      rcases hb with ⟨n,e,h1,_⟩ | ⟨n,h,cap,h1,h2,h3⟩
      · cases h1
      · exact .inr ⟨n,h,cap,by rw [← hH2];exact h1,h2,h3⟩
    have hst:∀ nw b,StB n0 β' σ2 S nw b→StB n0 noB σ2 (AY D) nw b:=fun nw b hb=>⟨fun hm=>hb.1 (inM _ hm),hb.2⟩
    refine ⟨σ2,vs2,D,b3,⟨fun n e he=>(by cases he),fun n h hh=>?_,fun b b' e e' blk he=>(by cases he),fun n n' h h' blk cap cap' hh hh'=>?_,fun b e n h blk cap he=>(by cases he)⟩,?_,fun b hb=>?_⟩
    · rw [hH2] at hh;exact (j3.sim.M.H n h hh).view rfl rfl rfl (fun _ _ _ ho=>ho) (fun b hb _=>hst _ b hb)
    · rw [hH2] at hh hh';exact j3.sim.M.uH n n' h h' blk cap cap' hh hh'
    · have j1':=np (S2:=AY D) hH2 hst j1;exact eE (UM hres r2 j1' b4).1 r3
    · rcases j3.ext.mem b (inM b hb) with h | h
      · exact x1.mem b h
      · exact .inr (Nat.le_trans x1.size h)
  cases ex with
  | nrm=>exact ⟨hdef,z,r1,hfin⟩
  | ret=>exact ⟨hdef,z,r1,hfin⟩
  | ext id=>simp [U4] at hex
theorem mV (hn9 : n0.n = w.heap.size) {own : Nat → Bool} {ci : CI} (ho : ∀ e, ci.ow e = true → own e = true) {rs : List PV} {fn : Func} {hs : List (Nat × HEnt (std E N))} {ex : Ex} (hsim : Sim P n0 nt β' σ' s' a' w') (hdef : a'.defers = [])
    (x1:Ext P n0 (fun _=>True) noB σ (AY hs) w β' σ' s' w') (hk:iR (O:=std E N) P own ci.nw fn ex s'=some rs):bodyPost P fn (Ret (E:=E) (N:=N) P ci n0 σ (AY hs) w fn rs) (fZ ex) a' w':=by
  have sb:=Sub.frz s' own;have xb:=sb.ext P n0 (fun _=>False) β' σ' w';refine ww hn9 ho (s':=tI own s') ⟨hsim.n0le,hsim.size,fun n tv hn=>?_,sb.mem hsim.M,hsim.kept.ext xb⟩ hdef ((x1.trans xb).weaken fun _ _=>trivial) hk;have hn':s'.getT n=some tv:=hn
  rcases hsim.T n tv hn' with ⟨h1,h2⟩ | h1
  · exact .inl ⟨h1,xb.relAV (fun _ _ h=>h) h2⟩
  · exact .inr h1
theorem na (hmix : P.follows .mixedOrders = true) (hΓ : GamOK P E N cfg) {own : Nat → Bool} {ci : CI} (ho : ∀ e, ci.ow e = true → own e = true) {ls rs : List PV}
    (h:XF (O:=std E N) P cfg own ci.nw ci.gives ci.f ci.fns (ls.map PV.leaf)=some rs) {fn:Func} (hfn:P.funcs[ci.f]?=some fn) {vs:List (AV (std E N))} {hs:List (Nat×HEnt (std E N))} (hv:BP (O:=std E N) P ci.gives 1 fn.params.toList ci.fns (ls.map PV.leaf)=some (vs,hs))
    (hn0:n0.n=w.heap.size) (m:Mem P n0 noB σ (AY hs) w) (hkp:Kept P n0 noB σ (AY hs) w) {args:List Value} (hr:RelArgs P n0 noB σ (AY hs) w vs args):Calls P ci.f args.toArray w (Ret (E:=E) (N:=N) P ci n0 σ (AY hs) w fn rs):=by
  unfold XF at h;rw [hfn] at h;simp only at h
  split at h
  · rename_i body vs' hs' hb hv';rw [hv] at hv';cases hv'
    split at h
    · cases h
    rename_i htm;obtain ⟨row,hnames⟩:=V7 hv
    let sx:St0 E N:={ tm:=.e,bx:=[],hp:=hs,st:=1+hs.length }
    have subx:Sub (AY hs) sx:=Sub.of_same (fun _=>rfl) (fun _=>rfl);have mx:Mem P n0 noB σ sx w:=subx.mem m;have hrx:RelArgs P n0 noB σ sx w vs args:=(subx.ext P n0 (fun _=>False) noB σ w).relArgs hr;have hfx:∀ n,sx.st≤n→ML sx n:=fun n hn=>⟨fun k e he=>(by cases he),fun k e he=>(by
      have:=row.mem _ (row.get he);have hn:1+hs.length≤n:=hn;simp at this;omega)⟩
    refine calls_of_wp hfn hb ?_;have hs1:=xZ (s:=sx) (nt:=fn.ntmps) (Nat.le_of_eq hn0) mx (hkp.ext (subx.ext P n0 (fun _=>False) noB σ w)) hrx;have wf1:=wf0 (s:=sx) hfx (args:=vs) (fun x hx n hn=>(hnames x hx n hn).2);have htm':=QQ (Zt (nt:=fn.ntmps) (vals:=args)) htm;have subs1:Sub sx ({ sx with tm:=CN 0 vs .e }:St0 E N):=Sub.of_same (fun _=>rfl) (fun _=>rfl);refine mH hmix hΓ 6 n0 _ body htm' _ _ _ _ rs noB σ (GE fn.ntmps args) w _ h hs1 wf1 (fun ex s' β' σ' a' w' hk mm hmm hp wf' hle=>?_);have x1:Ext P n0 (fun _=>True) noB σ (AY hs) w β' σ' s' w':=(((subx.ext P n0 (fun _=>False) noB σ w).trans (subs1.ext P n0 (fun _=>False) noB σ w)).trans hp.ext).weaken (fun _ _=>trivial);exact mV hn0 ho hp.sim hp.defers x1 hk
  · cases h
  · cases h
end
section
variable {E E':Env} {N N':Nat} {P:Program} {n0:Nz} {σ:Nat→Option (Nat×Nat)} {w:World}
def Cap.re:Cap (std E N)→Cap (std E' N')
 | .box b off=>.box b off
 | .row e l=>.row e l
def AC.re:AC (std E N)→AC (std E' N')
 | .int k i=>.int k i
 | .bool b=>.bool b
 | .str s=>.str s
 | .nil e=>.nil e
 | .imm e nw l=>.imm e nw l
 | .own e id=>.own e id
 | .ptr b off=>.ptr b off
 | .aptr b off n sz i inner=>.aptr b off n sz i inner
 | .eptr id i off=>.eptr id i off
 | .iptr e nw l i off=>.iptr e nw l i off
 | .fn f caps=>.fn f (caps.map Cap.re)
 | .nilptr=>.nilptr
 | .tail e id i=>.tail e id i
 | .mp e id=>.mp e id
 | .any T=>.any T
 | .opq nw n=>.opq nw n
 | .qlit b n=>.qlit b n
def Val.re (v:Val (std E N)):Val (std E' N'):={ agg:=v.agg,cs:=v.cs.map AC.re }
def AV.re:AV (std E N)→AV (std E' N')
 | .val v=>.val v.re
 | .tup vs=>.tup (vs.map Val.re)
def HEnt.re (h:HEnt (std E N)):HEnt (std E' N'):={ e:=h.e,frozen:=h.frozen,nw:=h.nw,l:=h.l,dirty:=h.dirty }
def reH (hs:List (Nat×HEnt (std E N))):List (Nat×HEnt (std E' N')):=hs.map fun (n,h)=>(n,h.re)
variable {hs:List (Nat×HEnt (std E N))}
theorem qg (n:Nat):(AY (reH hs:List (Nat×HEnt (std E' N')))).getH n=((AY hs).getH n).map HEnt.re:=Uk HEnt.re hs n
theorem Ee {n:Nat} {h':HEnt (std E' N')} (h:(AY (reH hs:List (Nat×HEnt (std E' N')))).getH n=some h'):∃ h0,(AY hs).getH n=some h0∧h'=h0.re:=by
 rw [qg] at h;obtain ⟨h0,h1,h2⟩:=zzo.1 h;exact ⟨h0,h1,h2.symm⟩
theorem Z6 {b:Nat}:InM noB σ (AY (reH hs:List (Nat×HEnt (std E' N')))) b↔InM noB σ (AY hs) b:=by
 constructor
 ·rintro (⟨n,e,h,_⟩ | ⟨n,h,cap,h1,h2,h3⟩)
  ·cases h
  ·obtain ⟨h0,h4,rfl⟩:=Ee h1;exact .inr ⟨n,h0,cap,h4,h2,h3⟩
 ·rintro (⟨n,e,h,_⟩ | ⟨n,h,cap,h1,h2,h3⟩)
  ·cases h
  ·exact .inr ⟨n,h.re,cap,by rw [qg,h1];rfl,h2,h3⟩
theorem Zi {nw:Bool} {b:Blk} (h:StB n0 noB σ (AY hs) nw b):StB n0 noB σ (AY (reH hs:List (Nat×HEnt (std E' N')))) nw b:=⟨fun hm=>h.1 (Z6.1 hm),h.2⟩
theorem RelC.re {c:AC (std E N)} {v:Value} (h:RelC P n0 noB σ (AY hs) w c v):RelC P n0 noB σ (AY (reH hs:List (Nat×HEnt (std E' N')))) w c.re v:=by
 cases c with
 | int k i=>exact h
 | bool b=>exact h
 | str s=>exact h
 | nil e=>exact h
 | nilptr=>exact h
 | imm e nw l=>obtain ⟨t,ht,hr⟩:=h;exact ⟨t,ht,hr.st (fun b hb=>Zi hb)⟩
 | own e id =>
  obtain ⟨h1,h2⟩:=h;refine ⟨h1,fun h' hh=>?_⟩;obtain ⟨h0,h3,rfl⟩:=Ee hh;exact h2 h0 h3
 | ptr b off=>obtain ⟨blk,h1,h2⟩:=h;exact ⟨blk,h1,fun e he=>by cases he⟩
 | aptr b off n sz i inner=>obtain ⟨h0,h1,blk,h2,h3⟩:=h;exact ⟨h0,h1,blk,h2,fun e he=>by cases he⟩
 | eptr id i off =>
  obtain ⟨h0,blk,o,hv,hk⟩:=h;refine ⟨h0,blk,o,hv,fun h' hh=>?_⟩;obtain ⟨h1,h3,rfl⟩:=Ee hh;exact hk h1 h3
 | iptr e nw l i off =>
  obtain ⟨h0,h1,t,ts,blk,boff,len,cap,ht,hts,hr,hv⟩:=h;exact ⟨h0,h1,t,ts,blk,boff,len,cap,ht,hts,hr.st (fun b hb=>Zi hb),hv⟩
 | fn f caps =>
  obtain ⟨vs,hv,hl,hp⟩:=h;refine ⟨vs,hv,by rw [List.length_map];exact hl,fun i c' hc=>?_⟩;rw [List.getElem?_map] at hc;obtain ⟨c,hc2,rfl⟩:=zzo.1 hc;obtain ⟨y,hy,hr⟩:=hp i c hc2;cases c with
  | box b o =>
   obtain ⟨blk,h2,h3⟩:=hr;exact ⟨y,hy,blk,h2,fun e he=>by cases he⟩
  | row e l =>
   obtain ⟨h1,t,ts,blk,boff,len,cap,ht,hts,hr,hv⟩:=hr;exact ⟨y,hy,h1,t,ts,blk,boff,len,cap,ht,hts,hr.st (fun b hb=>Zi hb),hv⟩
 | tail e id i =>
  obtain ⟨h0,hv,hk⟩:=h;refine ⟨h0,hv,fun h' hh=>?_⟩;obtain ⟨h1,h3,rfl⟩:=Ee hh;exact hk h1 h3
 | any T=>exact h
 | opq nw n=>obtain ⟨t,ht,hr⟩:=h;exact ⟨t,ht,hr.st (fun b hb=>Zi hb)⟩
 | qlit b n=>obtain ⟨blk,h1,blk2,h2,h3⟩:=h;exact ⟨blk,h1,blk2,h2,fun e he=>by cases he⟩
 | mp e id =>
  obtain ⟨hv,hk⟩:=h;refine ⟨hv,fun h' hh=>?_⟩;obtain ⟨h1,h3,rfl⟩:=Ee hh;exact hk h1 h3
theorem RelCs.re:∀ {cs:List (AC (std E N))} {vs:List Value},RelCs P n0 noB σ (AY hs) w cs vs→RelCs P n0 noB σ (AY (reH hs:List (Nat×HEnt (std E' N')))) w (cs.map AC.re) vs
 | [],[],_=>trivial
 | c::cs,v::vs,h=>⟨h.1.re,RelCs.re h.2⟩
 | [],_::_,h=>h.elim
 | _::_,[],h=>h.elim
theorem RelVal.re {x:Val (std E N)} {v:Value} (h:RelVal P n0 noB σ (AY hs) w x v):RelVal P n0 noB σ (AY (reH hs:List (Nat×HEnt (std E' N')))) w x.re v:=⟨RelCs.re h.1,h.2⟩
theorem RelVals.re:∀ {cs:List (Val (std E N))} {vs:List Value},RelVals P n0 noB σ (AY hs) w cs vs→RelVals P n0 noB σ (AY (reH hs:List (Nat×HEnt (std E' N')))) w (cs.map Val.re) vs
 | [],[],_=>trivial
 | c::cs,v::vs,h=>⟨h.1.re,RelVals.re h.2⟩
 | [],_::_,h=>h.elim
 | _::_,[],h=>h.elim
theorem RelAV.re {x:AV (std E N)} {v:Value} (h:RelAV P n0 noB σ (AY hs) w x v):RelAV P n0 noB σ (AY (reH hs:List (Nat×HEnt (std E' N')))) w x.re v:=by
 cases x with
 | val x=>exact RelVal.re (x:=x) h
 | tup xs=>obtain ⟨vs,h1,h2⟩:=h;exact ⟨vs,h1,h2.re⟩
theorem RelArgs.re:∀ {xs:List (AV (std E N))} {vs:List Value},RelArgs P n0 noB σ (AY hs) w xs vs→RelArgs P n0 noB σ (AY (reH hs:List (Nat×HEnt (std E' N')))) w (xs.map AV.re) vs
 | [],[],_=>trivial
 | c::cs,v::vs,h=>⟨h.1.re,RelArgs.re h.2⟩
 | [],_::_,h=>h.elim
 | _::_,[],h=>h.elim
theorem Mem.re (m:Mem P n0 noB σ (AY hs) w):Mem P n0 noB σ (AY (reH hs:List (Nat×HEnt (std E' N')))) w:=by
 refine ⟨fun n e he=>(by cases he),fun n h' hh=>?_,fun b b' e e' blk he=>(by cases he),fun n n' h h' blk cap cap' hh hh'=>?_,fun b e n h blk cap he=>(by cases he)⟩
 ·obtain ⟨h0,h1,rfl⟩:=Ee hh
  rcases m.H n h0 h1 with ⟨t,ts,h2,h3,h4,h5⟩ | ⟨mn,mr,b1,b2,b3,b4,b5,b6⟩
  case inr=>exact .inr ⟨mn,mr,b1,b2,b3,b4,b5,b6⟩
  refine .inl ⟨t,ts,h2,h3,h4,?_⟩
  rcases h5 with h5 | ⟨blk,cap,cells,el,a1,a2,a3,a4,a5,a6,v,a7,a8⟩
  ·exact .inl h5
  ·exact .inr ⟨blk,cap,cells,el,a1,a2,a3,a4,a5,a6,v,a7,fun i j t' hi hj=>(a8 i j t' hi hj).st (fun b hb=>Zi hb)⟩
 ·obtain ⟨h0,h1,rfl⟩:=Ee hh;obtain ⟨h0',h1',rfl⟩:=Ee hh';exact m.uH n n' h0 h0' blk cap cap' h1 h1'
theorem fh (a b:List (Nat×HEnt (std E N))):(reH (a++b):List (Nat×HEnt (std E' N')))=reH a++reH b:=by simp [reH]
theorem gP (a:List (Nat×HEnt (std E N))):(reH a:List (Nat×HEnt (std E' N'))).length=a.length:=by simp [reH]
theorem HZ {give:Bool}:∀ {ts:List TypeId} {q:Nat} {ls rest:List AU} {cs:List (AC (std E N))} {h:List (Nat×HEnt (std E N))},Ao (O:=std E N) P give q ts ls=some (cs,h,rest)→Ao (O:=std E' N') P give q ts ls=some (cs.map AC.re,reH h,rest)
 | [],q,ls,rest,cs,h,he=>by
  simp only [Ao] at he ⊢;cases he;rfl
 | t::ts,q,[],rest,cs,h,he=>by simp only [Ao] at he;cases he
 | t::ts,q,l::ls,rest,cs,h,he=>by
  simp only [Ao] at he ⊢;cases hl:AL P t<;>rw [hl] at he<;>cases l<;>simp only at he<;>try (cases he;done)
  ·obtain ⟨⟨cs1,h1,r1⟩,e1,e2⟩:=zzo.1 he;cases e2;simp only [HZ e1];rfl
  ·obtain ⟨⟨cs1,h1,r1⟩,e1,e2⟩:=zzo.1 he;cases e2;simp only [HZ e1];rfl
  ·obtain ⟨⟨cs1,h1,r1⟩,e1,e2⟩:=zzo.1 he;cases e2;simp only [HZ e1];rfl
  ·cases give with
   | false =>
    obtain ⟨⟨cs1,h1,r1⟩,e1,e2⟩:=zzo.1 he;cases e2;simp only [HZ e1];rfl
   | true =>
    obtain ⟨⟨cs1,h1,r1⟩,e1,e2⟩:=zzo.1 he;cases e2;simp only [HZ e1];rfl
  ·obtain ⟨⟨cs1,h1,r1⟩,e1,e2⟩:=zzo.1 he;cases e2;simp only [HZ e1];rfl
theorem fB:∀ {ts:List TypeId} {ls r:List AU} {caps:List (Cap (std E N))},Fk (O:=std E N) ts ls=some (caps,r)→Fk (O:=std E' N') ts ls=some (caps.map Cap.re,r)
 | [],ls,r,caps,h=>by simp only [Fk] at h ⊢;cases h;rfl
 | t::ts,[],r,caps,h=>by simp [Fk] at h
 | t::ts,l::ls,r,caps,h=>by
  cases l<;>simp only [Fk] at h ⊢<;>first | cases h | skip
  obtain ⟨⟨c1,r1⟩,e1,e2⟩:=zzo.1 h;cases e2;rw [fB e1];rfl
theorem YL:∀ {ts:List TypeId} {gv:List Bool} {q:Nat} {fns:List Nat} {ls:List AU} {vs:List (AV (std E N))} {hs:List (Nat×HEnt (std E N))},BP (O:=std E N) P gv q ts fns ls=some (vs,hs)→BP (O:=std E' N') P gv q ts fns ls=some (vs.map AV.re,reH hs)
  | [],gv,q,fns,ls,vs,hs,h=>by
    unfold BP at h ⊢;cases fns<;>cases ls<;>simp only at h ⊢<;>cases h;rfl
  | t::ts,gv,q,fns,ls,vs,hs,h=>by
    unfold BP at h ⊢;cases hl:AL P t<;>rw [hl] at h<;>simp only at h ⊢
    all_goals first
      | (split at h
         · rename_i f fns';cases hct:tV P f with
           | none=>rw [hct] at h;cases h
           | some cts =>
             rw [hct] at h;simp only at h ⊢
             split at h
             · rename_i caps ls1 hca;obtain ⟨⟨r,h1⟩,e1,e2⟩:=zzo.1 h;cases e2;simp only [fB hca,YL e1];rfl
             · cases h
         · cases h
         done)
      | (split at h
         · cases h
         · rename_i l hl2
           split at h
           · cases h
           · rename_i cs h1 ls1 hc;obtain ⟨⟨r,h2⟩,e1,e2⟩:=zzo.1 h;cases e2;simp only [HZ hc,gP,YL e1];simp [AV.re,Val.re,fh])
theorem E5 {own:Nat→Bool} {nw:Bool} {c:List PV}:∀ {ts:List TypeId} {j q:Nat} {cs:List (AC (std E N))} {h:List (Nat×HEnt (std E N))},A0 (O:=std E N) P own nw c j q ts=some (cs,h)→A0 (O:=std E' N') P own nw c j q ts=some (cs.map AC.re,reH h)
 | [],j,q,cs,h,he=>by
  simp only [A0] at he ⊢;cases he;rfl
 | t::ts,j,q,cs,h,he=>by
  simp only [A0] at he ⊢;cases hl:AL P t<;>rw [hl] at he<;>simp only at he<;>try (cases he;done)
  ·obtain ⟨⟨cs1,h1⟩,e1,e2⟩:=zzo.1 he;cases e2;simp only [E5 e1];rfl
  ·obtain ⟨⟨cs1,h1⟩,e1,e2⟩:=zzo.1 he;cases e2;simp only [E5 e1];rfl
  ·obtain ⟨⟨cs1,h1⟩,e1,e2⟩:=zzo.1 he;cases e2;simp only [E5 e1];rfl
  ·rename_i e;cases ho:own e with
   | false =>
    rw [ho] at he;obtain ⟨⟨cs1,h1⟩,e1,e2⟩:=zzo.1 he;cases e2;simp only [E5 e1,ho];rfl
   | true =>
    rw [ho] at he;obtain ⟨⟨cs1,h1⟩,e1,e2⟩:=zzo.1 he;cases e2;simp only [E5 e1,ho];rfl
  ·obtain ⟨⟨cs1,h1⟩,e1,e2⟩:=zzo.1 he;cases e2;simp only [E5 e1];rfl
theorem Zm {own:Nat→Bool} {nw:Bool} {c:List PV}:∀ {ts:List TypeId} {j q:Nat} {vs:List (Val (std E N))} {h:List (Nat×HEnt (std E N))},Bz (O:=std E N) P own nw c j q ts=some (vs,h)→Bz (O:=std E' N') P own nw c j q ts=some (vs.map Val.re,reH h)
 | [],j,q,vs,h,he=>by
  simp only [Bz] at he ⊢;cases he;rfl
 | t::ts,j,q,vs,h,he=>by
  simp only [Bz] at he ⊢
  split at he
  ·cases he
  ·rename_i l hl
   split at he
   ·cases he
   ·rename_i cs h1 hc
    split at he
    ·cases he
    ·rename_i vs2 h2 hv;cases he;simp only [hl,E5 hc,gP,Zm hv];simp [Val.re,fh]
theorem y9 (vs:List (Val (std E N))):(Kt (vs.map Val.re):AV (std E' N'))=(Kt vs).re:=by
 match vs with
 | []=>rfl
 | [v]=>rfl
 | v::v2::vs=>rfl
theorem Ret.re {ci:CI} {fn:Func} {rs:List PV} {e:Ending} {w':World} (h:Ret (E:=E) (N:=N) P ci n0 σ (AY hs) w fn rs e w'):Ret (E:=E') (N:=N') P ci n0 σ (AY (reH hs)) w fn rs e w':=by
 cases e with
 | panicked ch=>exact h.elim
 | outgrown=>exact h.elim
 | returned v =>
  obtain ⟨h1,h2,h3,h4,h5,h6⟩:=h;refine ⟨h1,h2,h3,h4,fun b hb hm=>h5 b hb (fun h=>hm (Z6.2 h)),fun q=>?_⟩;obtain ⟨σ',vs,hs',a1,a2,a3,a4⟩:=h6 q;exact ⟨σ',vs.map Val.re,reH hs',Zm a1,a2.re,by rw [y9];exact a3.re,fun b hb=>(a4 b (Z6.1 hb)).imp (fun h=>Z6.2 h) id⟩
theorem ABR (hs:List (Nat×HEnt (std E N))):(reH (reH hs:List (Nat×HEnt (std E' N'))):List (Nat×HEnt (std E N)))=hs:=by
 simp only [reH,List.map_map]
 conv=>rhs;rw [← List.map_id hs]
 rfl
theorem vj {ci : CI} (h : ∀ (ls rs : List PV), E' ci.f ci.fns ls = some rs → ∀ fn, P.funcs[ci.f]? = some fn → ∀ (vs : List (AV (std E N))) (hs : List (Nat × HEnt (std E N))), BP (O := std E N) P ci.gives 1 fn.params.toList ci.fns (ls.map PV.leaf) = some (vs, hs) →
    ∀ (n0:Nz) (σ:Nat→Option (Nat×Nat)) (w:World) (args:List Value),n0.n=w.heap.size→Mem P n0 noB σ (AY hs) w→RelArgs P n0 noB σ (AY hs) w vs args→(iQ ci.gives=true→∀ q,σ q=none)→Kept P n0 noB σ (AY hs) w→Calls P ci.f args.toArray w (Ret (E:=E) (N:=N) P ci n0 σ (AY hs) w fn rs)):KB P E' N' ci:=by
  intro fn hfn ls rs he vs hs hav n0 σ w args hn0 m hr hni hkp;refine (h ls rs he fn hfn _ _ (YL hav) n0 σ w args hn0 m.re hr.re hni (fun g hg=>⟨(hkp g hg).1,fun hm=>(hkp g hg).2.1 (Z6.1 hm),(hkp g hg).2.2⟩)).mono (fun e w' hret=>?_);have:=Ret.re (E':=E') (N':=N') hret;rw [ABR] at this;exact this
theorem KX {ci : CI} (h : ∀ (ls rs : List PV), E' ci.f ci.fns ls = some rs → ∀ fn, P.funcs[ci.f]? = some fn → ∀ (vs : List (AV (std E N))) (hs : List (Nat × HEnt (std E N))), BP (O := std E N) P ci.gives 1 fn.params.toList ci.fns (ls.map PV.leaf) = some (vs, hs) →
    ∀ (n0:Nz) (σ:Nat→Option (Nat×Nat)) (w:World) (args:List Value),n0.n=w.heap.size→Mem P n0 noB σ (AY hs) w→RelArgs P n0 noB σ (AY hs) w vs args→Kept P n0 noB σ (AY hs) w→Calls P ci.f args.toArray w (Ret (E:=E) (N:=N) P ci n0 σ (AY hs) w fn rs)):KB P E' N' ci :=
  vj fun ls rs he fn hfn vs hs hav n0 σ w args hn0 m hr _ hkp=>h ls rs he fn hfn vs hs hav n0 σ w args hn0 m hr hkp
theorem yC (hmix : P.follows .mixedOrders = true) {cfg : Cfg} (hΓ : GamOK P E N cfg) {ci : CI} (h : ∀ (ls rs : List PV), E' ci.f ci.fns ls = some rs → XF (O := std E N) P cfg ci.ow ci.nw ci.gives ci.f ci.fns (ls.map PV.leaf) = some rs) :
    KB P E' N' ci∧KB P E' N' { ci with own:=false } :=
  ⟨KX (fun ls rs he fn hfn vs hs hv n0 σ w args hn0 m hr hkp=>na hmix hΓ (ci:=ci) (fun _=>id) (h ls rs he) hfn hv hn0 m hkp hr),
   KX (ci:={ ci with own:=false }) (fun ls rs he fn hfn vs hs hv n0 σ w args hn0 m hr hkp=>na hmix hΓ (own:=ci.ow) (ci:={ ci with own:=false }) (fun e he=>by cases he) (h ls rs he) hfn hv hn0 m hkp hr)⟩
end
def fL:Operand→Bool
 | .const (.slice none 0 0)=>true
 | _=>false
def MR (T:TypeId):Code→Option (Code×Code)
 | .seq (.region _ r0 false) (.seq (.seq (.region _ r1 false) (.cond (.tmp 4) nb .skip)) tail)=>match r0.toList,r1.toList with
  | [⟨some 2,.assign (.const _),_,_,_,none⟩],[⟨some 3,.move (.tmp 0),_,_,_,none⟩,⟨some 4,.binOp .eql U (.tmp 3) z _,_,_,_,none⟩]=>match Nat.beq U T&&fL z with
   | true=>some (nb,tail)
   | false=>none
  | _,_=>none
 | _=>none
def Hu {O:Alg} (e:TypeId) (l:O.L):State O:={ tm:=CN 0 [.val ⟨false,[.imm e false l]⟩] .e,bx:=[],hp:=[],st:=1 }
section
variable {E:Env} {N:Nat} {P:Program} {cfg:Cfg} {n0 n0':Nz} {nt:Nat} {β β':Nat→Option Nat} {σ σ':Nat→Option (Nat×Nat)} {s s' s2:St0 E N} {a a':Act} {w w':World}
theorem Sim.put_free (hs:Sim P n0 nt β σ s a w) {d:Nat} {z:Value} (hd:s.getT d=none) (hg:∀ n tv,s.getT n=some tv→tv.gs=[]):Sim P n0 nt β σ s (a.put (some d) z) w:=by
 refine ⟨hs.n0le,by simp [Act.put,hs.size],fun n tv hn=>?_,hs.M,hs.kept⟩;have hne:n≠d:=fun e=>by rw [e,hd] at hn;cases hn
 rw [Ff hne];have g0:=hg n tv hn
 rcases hs.T n tv hn with ⟨h1,h2⟩ | ⟨h1,h2⟩
 ·exact .inl ⟨by rw [g0];exact fun n b hm=>by simp at hm,h2⟩
 ·exact (h1 (by rw [g0];exact fun n b hm=>by simp at hm)).elim
theorem YI {ops:Array Oper} {Q:Exit→Act→World→Prop} {i:Nat} {o:Oper} (ho:ops[i]?=some o) (hg:o.guard=none) {v:Value} (hx:(execOp a.eval o).run P w=.ok (.value v) w) {K:Act→World→Prop} (hK:K (a.put o.dst v) w):wpOp P ops Q i K a w:=by
 unfold wpOp;simp only [ho,Region.wanted,hg,if_true];refine .inl ?_;unfold Oper.wp;rw [hx];exact hK
theorem yA {d:Option Tmp} {t:TypeId} {p:String} {af:Array Edge} {g:Option (Nat×Bool)} {x:Operand} {v:Value} (h:a.eval x=v):(execOp a.eval ⟨d,.move x,t,p,af,g⟩).run P w=.ok (.value v) w:=by
 subst h;rfl
theorem tu {d:Option Tmp} {t:TypeId} {p:String} {af:Array Edge} {g:Option (Nat×Bool)} {x:Operand} {v:Value} (h:a.eval x=v):(execOp a.eval ⟨d,.assign x,t,p,af,g⟩).run P w=.ok (.value v) w:=by
 subst h;rfl
theorem ut {o:Oper} {Q:Exit→Act→World→Prop} (hg:o.guard=none) {v:Value} (hx:(execOp a.eval o).run P w=.ok (.value v) w) (hK:Q .normal (a.put o.dst v) w):wpOps P #[o] Q (List.range 1) a w:=by
 show wpOps P #[o] Q [0] a w;rw [wpOps_cons];exact YI rfl hg hx hK
theorem vi {o o' : Oper} {Q : Exit → Act → World → Prop} (hg : o.guard = none) (hg' : o'.guard = none) {v v' : Value} (hx : (execOp a.eval o).run P w = .ok (.value v) w) (hx' : (execOp (a.put o.dst v).eval o').run P w = .ok (.value v') w)
    (hK:Q .normal ((a.put o.dst v).put o'.dst v') w):wpOps P #[o,o'] Q (List.range 2) a w:=by
  show wpOps P #[o,o'] Q [0,1] a w;rw [wpOps_cons];refine YI rfl hg hx ?_;rw [wpOps_cons];exact YI rfl hg' hx' hK
theorem qO (hmix : P.follows .mixedOrders = true) (hΓ : GamOK P E N cfg) {own : Nat → Bool} {own' nw : Bool} {f : FuncId} (ho : ∀ e, CI.ow ⟨f, [], own', nw, [], []⟩ e = true → own e = true) {T e : TypeId} {fn : Func} (hfn : P.funcs[f]? = some fn) (hp : fn.params.toList = [T]) (hT : P.underlying T = some (.slice e)) (hq : FX P e = false)
    {body nb tail:Code} (hb:fn.body=some body) (hpc:MR T body=some (nb,tail)) (ht1:DW fn.ntmps nb=true) (ht2:DW fn.ntmps tail=true) (hna:(an P nb).nrm.isNone=true) (hnt:5≤fn.ntmps) {lv:Lv} {l:Rows}
    (h1:l=[]→XL (O:=std E N) P cfg 6 nb true lv (Hu e l) (iR P own nw fn)=some [.rows l]) (h2:XL (O:=std E N) P cfg 6 tail true lv (Hu e l) (iR P own nw fn)=some [.rows l])
    {vs:List (AV (std E N))} {hs:List (Nat×HEnt (std E N))} (hv:BP (O:=std E N) P [] 1 fn.params.toList [] ([PV.rows l].map PV.leaf)=some (vs,hs)) (hn0:n0.n=w.heap.size) (m:Mem P n0 noB σ (AY hs) w) (hkp:Kept P n0 noB σ (AY hs) w) {args:List Value} (hr:RelArgs P n0 noB σ (AY hs) w vs args) :
    Calls P f args.toArray w (Ret (E:=E) (N:=N) P ⟨f,[],own',nw,[],[]⟩ n0 σ (AY hs) w fn [.rows l]):=by
  have hlk:AL P T=.sl e:=by simp [AL,hT,hq,slK]
  obtain ⟨rfl,rfl⟩:vs=[.val ⟨false,[.imm e false l]⟩]∧hs=[]:=by
    rw [hp] at hv;unfold BP at hv;simp only [hlk] at hv;cases ht:AW P T with
    | none=>rw [ht] at hv;cases hv
    | some ts =>
      rw [ht] at hv;have:ts=[T]:=by
        unfold AW at ht;simp only [DQ,B5,hT] at ht
        split at ht
        · cases ht;rfl
        · cases ht
      subst this;have hag:Ad P T=false:=by simp [Ad,hT]
      simp [Ao,hlk,PV.leaf,BP,hag] at hv;exact ⟨hv.1.symm,hv.2⟩
  obtain ⟨v,rfl⟩:∃ v,args=[v]:=by
    have:=hr.len
    match args,this with
    | [v],_=>exact ⟨v,rfl⟩
  have hv0:RelVal P n0 noB σ (AY []) w (⟨false,[.imm e false l]⟩:Val (std E N)) v:=hr.1;obtain ⟨hc1,hc2⟩:=hv0;have hc2:v.oneCell'=true:=hc2;rw [Bf hc2] at hc1;obtain ⟨t0,ht0,hrep⟩:RelC P n0 noB σ (AY ([]:List (Nat×HEnt (std E N)))) w (.imm e false l) v:=hc1.1;obtain ⟨ad,len,cap,hvs,hnil⟩:∃ ad len cap,v=.slice ad len cap∧(ad=none→l=[]):=by
    cases hrep with
    | sl v h hts hl hrl hcap hm hv =>
      refine ⟨_,_,_,rfl,fun ha=>?_⟩
      rcases hm with hm | ⟨b,off,hb,_⟩
      · exact List.length_eq_zero_iff.1 (by rw [hl];exact hm)
      · rw [hb] at ha;cases ha
  subst hvs;unfold MR at hpc
  split at hpc
  case h_2=>cases hpc
  rename_i i0 r0 i1 r1 nb' tail'
  split at hpc
  case h_2=>cases hpc
  rename_i c0 ty0 pos0 af0 ty1 pos1 af1 U z uT ty2 pos2 af2 hr0 hr1
  split at hpc
  case h_2=>cases hpc
  rename_i hUz;cases hpc;simp only [zzj] at hUz;have hU:=AE.1 hUz.1;subst hU;obtain rfl:z=.const (.slice none 0 0):=by
    have:=hUz.2;unfold fL at this
    split at this
    · rfl
    · cases this
  have e0:r0=#[⟨some 2,.assign (.const c0),ty0,pos0,af0,none⟩]:=by apply Array.ext';exact hr0
  have e1:r1=#[⟨some 3,.move (.tmp 0),ty1,pos1,af1,none⟩,⟨some 4,.binOp .eql U (.tmp 3) (.const (.slice none 0 0)) uT,ty2,pos2,af2,none⟩]:=by apply Array.ext';exact hr1
  subst e0;subst e1
  let sx:St0 E N:={ tm:=.e,bx:=[],hp:=[],st:=1 }
  have subx:Sub (AY ([]:List (Nat×HEnt (std E N)))) sx:=Sub.of_same (fun _=>rfl) (fun _=>rfl);have mx:Mem P n0 noB σ sx w:=subx.mem m;have hrx:RelArgs P n0 noB σ sx w [.val ⟨false,[.imm e false l]⟩] [.slice ad len cap]:=(subx.ext P n0 (fun _=>False) noB σ w).relArgs hr;have hfx:∀ n,sx.st≤n→ML sx n:=fun n hn=>⟨fun k e he=>(by cases he),fun k e he=>(by cases he)⟩
  have hs1:=xZ (s:=sx) (nt:=fn.ntmps) (Nat.le_of_eq hn0) mx (hkp.ext (subx.ext P n0 (fun _=>False) noB σ w)) hrx;have wf1:WF (Hu e l:St0 E N):=wf0 (s:=sx) hfx (args:=[.val ⟨false,[.imm e false l]⟩]) (fun x hx n hn=>by simp at hx;subst hx;simp [AV.names,AH,AC.names] at hn);have hs1:Sim P n0 (GE fn.ntmps [.slice ad len cap]).tmps.size noB σ (Hu e l:St0 E N) (GE fn.ntmps [.slice ad len cap]) w:=hs1;have subs1:Sub sx (Hu e l:St0 E N):=Sub.of_same (fun _=>rfl) (fun _=>rfl);have free:∀ d,d≠0→(Hu e l:St0 E N).getT d=none:=fun d hd=>by
    cases hx:(Hu e l:St0 E N).getT d with
    | none=>rfl
    | some tv =>
      have hx:Dc (CN 0 [.val ⟨false,[.imm e false l]⟩] (.e:TM (TV (std E N)))) d=some tv:=hx
      rcases Qg hx with h | ⟨_,v,h1,_⟩
      · rw [Wx] at h;cases h
      · have:=(List.getElem?_eq_some_iff.1 h1).1;simp at this;omega
  have hs2:=((hs1.put_free (d:=2) (z:=c0) (free 2 (by omega)) wf1.gs).put_free (d:=3) (z:=.slice ad len cap) (free 3 (by omega)) wf1.gs).put_free (d:=4) (z:=.bool ad.isNone) (free 4 (by omega)) wf1.gs;have hsz:=Zt (nt:=fn.ntmps) (vals:=[.slice ad len cap]);have ht1':=QQ hsz ht1;have ht2':=QQ hsz ht2;have x0:∀ {β':Nat→Option Nat} {σ':Nat→Option (Nat×Nat)} {s':St0 E N} {w':World},Ext P n0 (fun n=>(Hu e l:St0 E N).st≤n) noB σ (Hu e l) w β' σ' s' w'→Ext P n0 (fun _=>True) noB σ (AY ([]:List (Nat×HEnt (std E N)))) w β' σ' s' w':=fun x =>
    (((subx.ext P n0 (fun _=>False) noB σ w).trans (subs1.ext P n0 (fun _=>False) noB σ w)).trans x).weaken (fun _ _=>trivial)
  have hget0:((GE fn.ntmps [Value.slice ad len cap]).put (some 2) c0).tmps.getD 0 undef=.slice ad len cap:=by
    rw [Ff (by omega)];simp only [GE];rw [Array.getD_eq_getD_getElem?,Array.getElem?_append_left (by simp)];rfl
  have hget3:(((GE fn.ntmps [Value.slice ad len cap]).put (some 2) c0).put (some 3) (.slice ad len cap)).tmps.getD 3 undef=.slice ad len cap:=by
    refine My ?_;have:5≤(GE fn.ntmps [Value.slice ad len cap]).tmps.size:=Nat.le_trans hnt hsz;simp [Act.put];omega
  have hget4:((((GE fn.ntmps [Value.slice ad len cap]).put (some 2) c0).put (some 3) (.slice ad len cap)).put (some 4) (.bool ad.isNone)).tmps.getD 4 undef=.bool ad.isNone:=by
    refine My ?_;have:5≤(GE fn.ntmps [Value.slice ad len cap]).tmps.size:=Nat.le_trans hnt hsz;simp [Act.put];omega
  generalize hB:bodyPost P fn (Ret (E:=E) (N:=N) P ⟨f,[],own',nw,[],[]⟩ n0 σ (AY []) w fn [.rows l])=B;generalize hA:(((GE fn.ntmps [Value.slice ad len cap]).put (some 2) c0).put (some 3) (.slice ad len cap)).put (some 4) (.bool ad.isNone)=A at hs2 hget4;have hAd:A.defers=[]:=by rw [← hA];rfl
  have fin:(Code.cond (.tmp 4) nb Code.skip).wp P (Exit.then (tail.wp P B) B) A w:=by
    refine wp_cond_split (t:=ad.isNone) (c:=.tmp 4) (a:=A) hget4 (fun ht=>?_) (fun ht=>?_)
    · have hl:=hnil (by cases ad with | none=>rfl | some _=>simp at ht);refine mH hmix hΓ 6 n0 _ _ ht1' _ _ _ _ _ noB σ _ w _ (h1 hl) hs2 wf1 (fun ex s' β' σ' a' w' hk mm hmm hp wf' hle=>?_);have hfin:=mV hn0 (ci:=⟨f,[],own',nw,[],[]⟩) (fn:=fn) ho hp.sim (hp.defers.trans hAd) (x0 hp.ext) hk;rw [hB] at hfin;cases ex with
      | nrm =>
        have:(an P nb).nrm=some mm:=hmm;rw [this] at hna;cases hna
      | ret=>exact hfin
      | ext id=>exact hfin
    · refine wp_skip ?_;refine mH hmix hΓ 6 n0 _ _ ht2' _ _ _ _ _ noB σ _ w B h2 hs2 wf1 (fun ex s' β' σ' a' w' hk mm hmm hp wf' hle=>?_);rw [← hB];exact mV hn0 (ci:=⟨f,[],own',nw,[],[]⟩) ho hp.sim (hp.defers.trans hAd) (x0 hp.ext) hk
  refine calls_of_wp hfn hb ?_;rw [hB];refine wp_seq (wp_region (ut (o:=⟨some 2,.assign (.const c0),ty0,pos0,af0,none⟩) rfl (v:=c0) (tu (x:=.const c0) rfl) ?_));show (Code.seq (Code.seq _ _) tail).wp P B ((GE fn.ntmps [Value.slice ad len cap]).put (some 2) c0) w;refine wp_seq (wp_seq (wp_region (vi (o:=⟨some 3,.move (.tmp 0),ty1,pos1,af1,none⟩) (o':=⟨some 4,.binOp .eql U (.tmp 3) (.const (.slice none 0 0)) uT,ty2,pos2,af2,none⟩) rfl rfl (v:=.slice ad len cap) (v':=.bool ad.isNone)
    (yA (a:=(GE fn.ntmps [Value.slice ad len cap]).put (some 2) c0) (x:=.tmp 0) hget0) (Ci (x:=do eqGuard .eql U (.tmp 3) (.const (.slice none 0 0)) ((((GE fn.ntmps [Value.slice ad len cap]).put (some 2) c0).put (some 3) (.slice ad len cap)).eval (.tmp 3)) (.slice none 0 0);Go.binOp .eql U ((((GE fn.ntmps [Value.slice ad len cap]).put (some 2) c0).put (some 3) (.slice ad len cap)).eval (.tmp 3)) (.slice none 0 0)) (by simp [execOp,Act.eval]) (by
    rw [show ((((GE fn.ntmps [Value.slice ad len cap]).put (some 2) c0).put (some 3) (.slice ad len cap)).eval (.tmp 3))=.slice ad len cap from hget3];exact Ax (GZ _ _ _ _ _ _ rfl (by simp)) (Lib.run_eql_slice_nil (P:=P) w U e ad len cap 0 0 hT))) ?_)))
  rw [← hA] at fin;exact fin
end
def VJ:List Nat→List PV→Bool
 | [],[]=>true
 | k::ks,p::ps=>(match p with | .int _=>Nat.beq k 0 | .bool _=>Nat.beq k 1 | .str _=>Nat.beq k 2 | .rows _=>Nat.beq k 3)&&VJ ks ps
 | _,_=>false
structure Ags (O:Alg) where
 I:Nat→O.I
 B:Nat→O.B
 S:Nat→O.S
 L:Nat→O.L
def xr {O:Alg} (x:Ags O):List Nat→Nat→List O.Lf
 | [],_=>[]
 | k::ks,j=>(match k with | 0=>.int (x.I j) | 1=>.bool (x.B j) | 2=>.str (x.S j) | _=>.rows (x.L j))::xr x ks (j+1)
def cr (O:Alg) (c:O.C):List Nat→Nat→List O.Lf
 | [],_=>[]
 | k::ks,j=>(match k with | 0=>.int (O.d c j) | 1=>.bool (O.q c j) | 2=>.str (O.cS c j) | _=>.rows (O.k c j))::cr O c ks (j+1)
def rr (O:Alg) (l:O.L) (i:O.I):List Nat→Nat→List O.Lf
 | [],_=>[]
 | k::ks,j=>(match k with | 0=>.int (O.n l i j) | 1=>.bool (O.rB l i j) | 2=>.str (O.rS l i j) | _=>.rows (O.rL l i j))::rr O l i ks (j+1)
def kI:List Nat:=[0,0,0,0,0,0,0,0,0,0,0,0,0,0,3,0,3,3,1,3,1,0,0,0,3,0,0,0]
def kR:List Nat:=[2,0,0,0,0,0,0,0,1,0,0,0,0,3]
def kM:List Nat:=[2,0,0,0,0,0,0,0,1,0,0,0,0,3,0,0,1,3,0,0,0,0,0]
def ap (O:Alg) (a b:List O.Lf):List O.Lf:=a++b
def xOf {E:Env} {N:Nat} (ls:List PV):Ags (std E N):={ I:=fun j=>pvI (AA ls j),B:=fun j=>pvB (AA ls j),S:=fun j=>pvS (AA ls j),L:=fun j=>pvL (AA ls j) }
theorem mZ {E:Env} {N:Nat}:∀ {ks:List Nat} {ps pre:List PV},VJ ks ps=true→ps.map PV.leaf=xr (xOf (E:=E) (N:=N) (pre++ps)) ks pre.length
 | [],[],pre,_=>rfl
 | k::ks,p::ps,pre,h=>by
  simp only [VJ,zzj] at h;have ih:=mZ (E:=E) (N:=N) (ks:=ks) (ps:=ps) (pre:=pre++[p]) h.2;simp only [List.map_cons,xr];have hc:AA (pre++p::ps) pre.length=p:=by
   unfold AA;rw [zzk,List.getElem?_append_right (Nat.le_refl _)];simp
  rw [List.append_assoc,List.length_append] at ih;have ih:ps.map PV.leaf=xr (xOf (E:=E) (N:=N) (pre++p::ps)) ks (pre.length+1):=ih;rw [ih];congr 1;have h1:=h.1;cases p with
  | int n=>have:=AE.1 h1;subst this;simp [xOf,hc,PV.leaf]
  | bool n=>have:=AE.1 h1;subst this;simp [xOf,hc,PV.leaf]
  | str n=>have:=AE.1 h1;subst this;simp [xOf,hc,PV.leaf]
  | rows n=>have:=AE.1 h1;subst this;simp [xOf,hc,PV.leaf]
 | [],_::_,_,h=>by simp [VJ] at h
 | _::_,[],_,h=>by simp [VJ] at h
theorem qA {E:Env} {N:Nat} {ks:List Nat} {ls:List PV} (h:VJ ks ls=true):ls.map PV.leaf=xr (xOf (E:=E) (N:=N) ls) ks 0:=mZ (pre:=[]) h
def Pt (ks:List Nat) (ls:List PV) (F:Option (List PV)):Option (List PV):=match VJ ks ls with
 | true=>F
 | false=>none
theorem oL {ks:List Nat} {ls rs:List PV} {F:Option (List PV)} (h:Pt ks ls F=some rs):VJ ks ls=true∧F=some rs:=by
 unfold Pt at h
 split at h
 ·rename_i hs;exact ⟨hs,h⟩
 ·cases h
abbrev VV (P:Program) (E:Env) (N:Nat) (ci:CI):Prop:=KB P E N ci∧KB P E N { ci with own:=false }
theorem EO {P:Program} {E:Env} {N:Nat}:∀ ci∈([]:List CI),VV P E N ci:=fun ci h=>by simp at h
theorem Am {P:Program} {E:Env} {N:Nat} {c:CI} {l:List CI} (h:VV P E N c) (k:∀ ci∈l,VV P E N ci):∀ ci∈c::l,VV P E N ci:=fun ci hm=>by
 rcases List.mem_cons.1 hm with rfl | hm
 ·exact h
 ·exact k ci hm
theorem sP {P : Program} (hmix : P.follows .mixedOrders = true) {E : Env} {N : Nat} {cfg : Cfg} (hΓ : ∀ ci ∈ cfg.gam, VV P E N ci) (hb : ∀ b ∈ cfg.bld, VZ P b) {ci : CI} {ks : List Nat} {c F : List PV → Option (List PV)} (hc : ∀ ls, c ls = Pt ks ls (F ls))
    (hx:∀ ls,XF (O:=std E N) P cfg ci.ow ci.nw ci.gives ci.f ci.fns (xr (xOf ls) ks 0)=F ls) {E':Env} {N':Nat} (h:∀ ls,E' ci.f ci.fns ls=c ls):VV P E' N' ci :=
  yC hmix ⟨hΓ,hb⟩ (fun ls rs he=>by
    rw [h,hc] at he;obtain ⟨h1,h2⟩:=oL he;rw [qA h1,hx];exact h2)
theorem Cp {P : Program} (hmix : P.follows .mixedOrders = true) {E : Env} {N : Nat} {cfg : Cfg} (hΓ : ∀ ci ∈ cfg.gam, VV P E N ci) {ci : CI} {ks : List Nat} {c F : List PV → Option (List PV)} (hc : ∀ ls, c ls = Pt ks ls (F ls))
    (hx:∀ ls,XF (O:=std E N) P cfg ci.ow ci.nw ci.gives ci.f ci.fns (xr (xOf ls) ks 0)=F ls) {E':Env} {N':Nat} (h:∀ ls,E' ci.f ci.fns ls=c ls) (hb:cfg.bld=[]:=by rfl):VV P E' N' ci :=
  sP hmix hΓ (by rw [hb];exact fun b h=>by simp at h) hc hx h
def au (n b:Nat):Bool:=decide (n≤17592186044416∧n * b≤17592186044416)
def Qk (b:Nat) (ls:List PV):Option (List PV):=match ls with
 | [.rows l]=>match au l.length b with
  | true=>some [.rows l]
  | false=>none
 | _=>none
def Tq (T:TypeId) (fn:Func):Code:=match fn.body with
 | some c=>match MR T c with
  | some (nb,_)=>nb
  | none=>.skip
 | none=>.skip
def Un (T:TypeId) (fn:Func):Code:=match fn.body with
 | some c=>match MR T c with
  | some (_,t)=>t
  | none=>.skip
 | none=>.skip
def jX (fn:Func):Lv:={ nrm:=P5 fn.results.toList,ret:=P5 fn.results.toList,exts:=[] }
def rx (P:Program) (T:TypeId) (fn:Func):Bool:=match fn.body with
 | some c=>(MR T c).isSome&&DW fn.ntmps (Tq T fn)&&DW fn.ntmps (Un T fn)&&(an P (Tq T fn)).nrm.isNone&&Nat.ble 5 fn.ntmps&&AQ fn.params.toList [T]
 | none=>false
theorem QS {P : Program} (hmix : P.follows .mixedOrders = true) {f : FuncId} {T e : TypeId} {b : Nat} {fn : Func} (hfn : P.funcs[f]? = some fn) (hT : P.underlying T = some (.slice e)) (hok : rx P T fn = true) (hb : b ≤ 1048576)
    (h1:∀ (O:Alg) (l:O.L),XL (O:=O) P { gam:=[] } 6 (Tq T fn) true (jX fn) (Hu e l) (iR P (fun _=>true) true fn)=O.a [.rows O.y])
    (h2:∀ (O:Alg) (l:O.L),XL (O:=O) P { gam:=[] } 6 (Un T fn) true (jX fn) (Hu e l) (iR P (fun _=>true) true fn)=O.j (O.t (O.l (O.ae (O.ab []) l)) b) (O.a [.rows (O.ae (O.ab []) l)]))
    {E':Env} {N':Nat} (h:∀ ls,E' f [] ls=Qk b ls) (hq:FX P e=false:=by rfl):VV P E' N' ⟨f,[],true,true,[],[]⟩:=by
  unfold rx at hok
  split at hok
  case h_2=>cases hok
  rename_i c hbody;simp only [zzj] at hok;obtain ⟨⟨⟨⟨⟨k1,k2⟩,k3⟩,k4⟩,k5⟩,k6⟩:=hok;have k5:=Nat.le_of_ble_eq_true k5;have k6:=JU.1 k6;obtain ⟨⟨nb,tail⟩,hpc⟩:=Option.isSome_iff_exists.1 k1;have hnb:Tq T fn=nb:=by simp [Tq,hbody,hpc]
  have htl:Un T fn=tail:=by simp [Un,hbody,hpc]
  rw [hnb] at k2 k4;rw [htl] at k3;have main : ∀ own', (own' = true → true = true) → ∀ (ls rs : List PV), E' f [] ls = some rs → ∀ fn', P.funcs[f]? = some fn' → ∀ (vs : List (AV (std E' N'))) (hs : List (Nat × HEnt (std E' N'))), BP (O := std E' N') P [] 1 fn'.params.toList [] (ls.map PV.leaf) = some (vs, hs) →
      ∀ (n0:Nz) (σ:Nat→Option (Nat×Nat)) (w:World) (args:List Value),n0.n=w.heap.size→Mem P n0 noB σ (AY hs) w→RelArgs P n0 noB σ (AY hs) w vs args→Kept P n0 noB σ (AY hs) w→Calls P f args.toArray w (Ret (E:=E') (N:=N') P ⟨f,[],own',true,[],[]⟩ n0 σ (AY hs) w fn' rs) :=
    fun own' ho ls rs he fn' hfn' vs hs hv n0 σ w args hn0 m hr hkp=>by
      rw [hfn] at hfn';cases hfn';rw [h] at he;unfold Qk at he
      split at he
      case h_2=>cases he
      rename_i l
      split at he
      case h_2=>cases he
      rename_i hsm;cases he;unfold au at hsm;have hsm:=of_decide_eq_true hsm;refine qO (cfg:={ gam:=[] }) hmix ⟨fun ci hm=>by simp at hm,fun b hm=>by simp at hm⟩ (fun _ _=>rfl) hfn k6 hT hq hbody hpc k2 k3 k4 k5 (lv:=jX fn) (fun hl=>?_) ?_ hv hn0 m hkp hr
      · rw [← hnb,h1,hl];rfl
      · rw [← htl,h2];have:(decide ((0:Int)≤((([]++l:Rows).length:Nat):Int)∧((([]++l:Rows).length:Nat):Int)≤17592186044416∧((([]++l:Rows).length:Nat):Int) * (b:Int)≤17592186044416∧b≤1048576))=true:=by
          simp only [List.nil_append,decide_eq_true_eq];refine ⟨by omega,by omega,?_,hb⟩;have:=hsm.2;rw [← Int.natCast_mul];omega
        show cond (decide ((0:Int)≤((([]++l:Rows).length:Nat):Int)∧((([]++l:Rows).length:Nat):Int)≤17592186044416∧((([]++l:Rows).length:Nat):Int) * (b:Int)≤17592186044416∧b≤1048576)) (some [PV.rows ([]++l)]) none=_;rw [this];rfl
  exact ⟨KX (ci:=⟨f,[],true,true,[],[]⟩) (main true (fun _=>rfl)),KX (ci:=⟨f,[],false,true,[],[]⟩) (main false (fun _=>rfl))⟩
open Go.RowKit
def gN (ls:List PV):Option (List PV):=match ls with
 | [.str s,.int c]=>some [.int (Lib.indexByte s.data.toList c.toNat.toUInt8)]
 | _=>none
theorem qd {P : Program} {f : FuncId} {T5 T9 T3 : TypeId} {fn : Func} (hfn : P.funcs[f]? = some fn) (hp : fn.params = #[T9, T5]) (hr : fn.resultTypes = #[T3]) (h9 : P.underlying T9 = some .string) (h5 : P.underlying T5 = some (.int .u8)) (h3 : P.underlying T3 = some (.int .i64)) (h3t : AW P T3 = some [T3])
    (hc:∀ (s:ByteArray) (c:Int) (w:World),Calls P f #[.string s,.int .u8 c] w fun e w'=>e=.returned (.int .i64 (Lib.indexByte s.data.toList c.toNat.toUInt8))∧w'=w)
    {E':Env} {N':Nat} (h:∀ ls,E' f [] ls=gN ls):VV P E' N' ⟨f,[],true,true,[],[]⟩:=by
  have l9:AL P T9=.str:=by simp [AL,h9]
  have l5:AL P T5=.int .u8:=by simp [AL,h5]
  have l3:AL P T3=.int .i64:=by simp [AL,h3]
  have a3:Ad P T3=false:=by simp [Ad,h3]
  have a5:Ad P T5=false:=by simp [Ad,h5]
  have a9:Ad P T9=false:=by simp [Ad,h9]
  have ty:∀ {T:TypeId} {x:List TypeId} {d:TypeDesc},P.underlying T=some d→(∀ k,B5 P (k+1) T=some [T])→AW P T=some x→x=[T]:=fun {T x d} _ hk hx=>by
    unfold AW at hx;rw [show DQ=19+1 from rfl,hk] at hx;simp only at hx
    split at hx
    · cases hx;rfl
    · cases hx
  have main : ∀ own', ∀ (ls rs : List PV), E' f [] ls = some rs → ∀ fn', P.funcs[f]? = some fn' → ∀ (vs : List (AV (std E' N'))) (hs : List (Nat × HEnt (std E' N'))), BP (O := std E' N') P [] 1 fn'.params.toList [] (ls.map PV.leaf) = some (vs, hs) →
      ∀ (n0:Nz) (σ:Nat→Option (Nat×Nat)) (w:World) (args:List Value),n0.n=w.heap.size→Mem P n0 noB σ (AY hs) w→RelArgs P n0 noB σ (AY hs) w vs args→Kept P n0 noB σ (AY hs) w→Calls P f args.toArray w (Ret (E:=E') (N:=N') P ⟨f,[],own',true,[],[]⟩ n0 σ (AY hs) w fn' rs) :=
    fun own' ls rs he fn' hfn' vs hs hv n0 σ w args hn0 m hra hkp=>by
      rw [hfn] at hfn';cases hfn';rw [h] at he;unfold gN at he
      split at he
      case h_2=>cases he
      rename_i s c;cases he;rw [hp] at hv;have hT9:AW P T9=none∨AW P T9=some [T9]:=by
        cases hx:AW P T9 with
        | none=>exact .inl rfl
        | some x=>exact .inr (by rw [ty h9 (fun k=>by simp [B5,h9]) hx])
      have hT5:AW P T5=none∨AW P T5=some [T5]:=by
        cases hx:AW P T5 with
        | none=>exact .inl rfl
        | some x=>exact .inr (by rw [ty h5 (fun k=>by simp [B5,h5]) hx])
      unfold BP at hv;simp only [l9] at hv
      rcases hT9 with hT9 | hT9
      · simp [hT9] at hv
      simp only [hT9,List.map_cons,List.map_nil,PV.leaf,Ao,l9,Option.map_some] at hv;unfold BP at hv;simp only [l5] at hv
      rcases hT5 with hT5 | hT5
      · simp [hT5] at hv
      simp [hT5,Ao,l5,BP,a9,a5] at hv;obtain ⟨rfl,rfl⟩:=hv;obtain ⟨v1,v2,rfl⟩:∃ v1 v2,args=[v1,v2]:=by
        have:=hra.len
        match args,this with
        | [v1,v2],_=>exact ⟨v1,v2,rfl⟩
      obtain ⟨q1,q2,_⟩:=hra;have q1:RelVal P n0 noB σ (AY []) w (⟨false,[.str s]⟩:Val (std E' N')) v1:=q1;have q2:RelVal P n0 noB σ (AY []) w (⟨false,[.int .u8 c]⟩:Val (std E' N')) v2:=q2;obtain ⟨g1,g2⟩:=q1;have g2:v1.oneCell'=true:=g2;rw [Bf g2] at g1;have e1:v1=.string s:=g1.1;obtain ⟨k1,k2⟩:=q2;have k2:v2.oneCell'=true:=k2;rw [Bf k2] at k1;have e2:v2=.int .u8 c:=k1.1;subst e1;subst e2;refine Calls.mono (hc s c w) (fun e w' hp2=>?_);obtain ⟨rfl,rfl⟩:=hp2;refine ⟨rfl,rfl,rfl,Nat.le_refl _,fun _ _ _=>rfl,fun q=>⟨fun _=>none,[⟨false,[.int .i64 _]⟩],[],?_,⟨fun _ _ h=>(by cases h),fun _ _ h=>(by cases h),fun _ _ _ _ _ h=>(by cases h),fun _ _ _ _ _ _ _ h=>(by cases h),fun _ _ _ _ _ _ h=>(by cases h)⟩,⟨⟨rfl,trivial⟩,rfl⟩,fun b hb=>?_⟩⟩
      · rw [hr];simp [Bz,h3t,A0,l3,a3];rfl
      · rcases hb with ⟨_,_,hx,_⟩ | ⟨_,_,_,hx,_⟩
        · cases hx
        · cases hx
  exact ⟨KX (ci:=⟨f,[],true,true,[],[]⟩) (main true),KX (ci:=⟨f,[],false,true,[],[]⟩) (main false)⟩
end Go.Px
end
section
namespace Go.Px
def cI (n:Nat):CI:=⟨n,[],true,true,[],[]⟩
def Vd (P:Program) (n:Nat) (c:Nat→List PV→Option (List PV)):Prop:=∀ {E:Env} {M:Nat} (N:Nat),(∀ ls,E n [] ls=c N ls)→VV P E M (cI n)
def eL (l:List (Nat×(Nat→List PV→Option (List PV)))) (N:Nat):Env:=fun f fns ls=>match l with
 | []=>none
 | p::r=>cond (Nat.beq f p.1&&AQ fns []) (p.2 N ls) (eL r N f fns ls)
def oS (ks:List Nat) (t:∀ O:Alg,Ags O→O.M) (env:Nat→Env) (N:Nat) (ls:List PV):Option (List PV):=Pt ks ls (t (std (env N) N) (xOf ls))
inductive Gs (P:Program):List (Nat×(Nat→List PV→Option (List PV)))→Prop
 | nil:Gs P []
 | cons {n:Nat} {c:Nat→List PV→Option (List PV)} {l:List (Nat×(Nat→List PV→Option (List PV)))} (h:Vd P n c) (t:Gs P l):Gs P ((n,c)::l)
theorem g0 {P:Program}:Gs P []:=.nil
theorem gs {P:Program} {n:Nat} {c:Nat→List PV→Option (List PV)} {l:List (Nat×(Nat→List PV→Option (List PV)))} (h:Vd P n c) (t:Gs P l):Gs P ((n,c)::l):=.cons h t
def Sf:List Nat→Bool
 | []=>true
 | n::l=>l.all (fun m => !Nat.beq m n)&&Sf l
theorem vM {l:List (Nat×(Nat→List PV→Option (List PV)))} {N:Nat}:∀ {pre:List (Nat×(Nat→List PV→Option (List PV)))} {n:Nat} {c:Nat→List PV→Option (List PV)} {ls:List PV},pre.all (fun p => !Nat.beq n p.1)=true→eL (pre++(n,c)::l) N n [] ls=c N ls
 | [],n,c,ls,_=>by
  show cond (Nat.beq n n&&true) (c N ls) _=_;rw [Nat.beq_refl];rfl
 | p::pre,n,c,ls,h=>by
  rw [List.all_cons,zzj] at h;have h1:Nat.beq n p.1=false:=by
   have:=h.1;simpa using this
  show cond (Nat.beq n p.1&&true) _ (eL (pre++(n,c)::l) N n [] ls)=_;rw [h1];exact vM h.2
theorem vu {P:Program} {N:Nat}:∀ {l:List (Nat×(Nat→List PV→Option (List PV)))} {pre:List (Nat×(Nat→List PV→Option (List PV)))},Gs P l→(∀ p∈l,pre.all (fun q => !Nat.beq p.1 q.1)=true)→Sf (l.map (·.1))=true→∀ ci∈l.map (fun p=>cI p.1),VV P (eL (pre++l) N) N ci
 | [],_,_,_,_,ci,h=>by cases h
 | (n,c)::l,pre,.cons hv ht,hp,ha,ci,h=>by
  rw [List.map_cons,List.mem_cons] at h
  rcases h with h | h
  ·subst h;exact hv N (fun ls=>vM (hp (n,c) (zzl ..)))
  ·simp only [List.map_cons,Sf,zzj] at ha;have:=vu (N:=N) (pre:=pre++[(n,c)]) ht (fun p hm=>by
    rw [List.all_append,hp p (zzm _ hm),Bool.true_and];have h1:=List.all_eq_true.1 ha.1 p.1 (List.mem_map.2 ⟨p,hm,rfl⟩);simpa using h1) ha.2 ci h
   rw [List.append_assoc] at this;exact this
theorem vti {P : Program} (hmix : P.follows .mixedOrders = true) (imm old : Bool) (ie : List Nat) {n : Nat} {c : Nat → List PV → Option (List PV)} (ks : List Nat) (t : ∀ O : Alg, Ags O → O.M) (l : List (Nat × (Nat → List PV → Option (List PV)))) (hg : Gs P l) (ha : Sf (l.map (·.1)) = true)
    (hc:∀ N ls,c N ls=Pt ks ls (t (std (eL l N) N) (xOf ls)))
    (hx:∀ (O:Alg) (x:Ags O),XF (O:=O) P { gam:=l.map (fun p=>cI p.1),imm:=imm,old:=old,ie:=ie } (fun _=>true) true [] n [] (xr x ks 0)=t O x):Vd P n c:=fun N h =>
  Cp hmix (E:=eL l N) (N:=N) (cfg:={ gam:=l.map (fun p=>cI p.1),imm:=imm,old:=old,ie:=ie }) (ci:=cI n) (vu (pre:=[]) hg (fun _ _=>rfl) ha) (hc N) (fun ls=>hx _ _) h
theorem vt {P : Program} (hmix : P.follows .mixedOrders = true) {n : Nat} {c : Nat → List PV → Option (List PV)} (ks : List Nat) (t : ∀ O : Alg, Ags O → O.M) (l : List (Nat × (Nat → List PV → Option (List PV)))) (hg : Gs P l) (ha : Sf (l.map (·.1)) = true)
    (hc:∀ N ls,c N ls=Pt ks ls (t (std (eL l N) N) (xOf ls)))
    (hx:∀ (O:Alg) (x:Ags O),XF (O:=O) P { gam:=l.map (fun p=>cI p.1) } (fun _=>true) true [] n [] (xr x ks 0)=t O x):Vd P n c:=vti hmix false false [] ks t l hg ha hc hx
theorem vE {P:Program} {n:Nat} {c:Nat→List PV→Option (List PV)} (v:Vd P n c) {E:Env} {M:Nat} (N:Nat) (h:∀ ls,E n [] ls=c N ls):VV P E M (cI n):=v N h
open Go.RowKit
def wW (i:Nat):List UInt8:=cond (Nat.blt i 10) [UInt8.ofNat (48+i)] [UInt8.ofNat (48+i / 10),UInt8.ofNat (48+i % 10)]
theorem AAE {i:Nat} (h:i<100):wW i=Lib.decDigits i:=by
 unfold wW;cases hb:Nat.blt i 10 with
 | true =>
  have:i<10:=of_eq_true (Nat.blt_eq▸eq_true hb);rw [Lib.decDigits,dif_pos this];rfl
 | false =>
  have:¬ i<10:=fun hx=>by
   rw [← Nat.blt_eq,hb] at hx;cases hx
  rw [Lib.decDigits,dif_neg this,Lib.decDigits,dif_pos (show i / 10<10 by omega)];rfl
theorem AAY {P:Program} {T:TypeId} {x:List TypeId} (hk:∀ k,B5 P (k+1) T=some [T]) (hx:AW P T=some x):x=[T]:=by
 unfold AW at hx;rw [show DQ=19+1 from rfl,hk] at hx;simp only at hx
 split at hx
 ·cases hx;rfl
 ·cases hx
theorem yS {P:Program} {T:TypeId} (hk:∀ k,B5 P (k+1) T=some [T]):AW P T=none∨AW P T=some [T]:=by
 cases hx:AW P T with
 | none=>exact .inl rfl
 | some x=>exact .inr (by rw [AAY hk hx])
end Go.Px
end
section
namespace Go.Px
open Go.RowKit Go.Sort
def pH (i:Int):Option (List PV):=cond (decide (-9223372036854775808≤i)&&decide (i≤9223372036854775807)) (cond (decide (0≤i)&&decide (i<100)) (some [.str ⟨(wW i.toNat).toArray⟩]) (some [.str ⟨(Lib.itoa i).toArray⟩])) none
def xK (ls:List PV):Option (List PV):=match ls with
 | [.int i,.int b]=>cond (b==10) (pH i) none
 | _=>none
theorem wn (n:Nat):Lib.itoa (n:Int)=Lib.decDigits n:=by
 unfold Lib.itoa;rw [if_neg (by omega),Int.toNat_natCast]
theorem wm {i:Int} (h0 : -9223372036854775808≤i) (h:i≤9223372036854775807):pH i=some [.str ⟨(Lib.itoa i).toArray⟩]:=by
 unfold pH;rw [decide_eq_true h0,decide_eq_true h];show cond (decide (0≤i)&&decide (i<100)) _ _=_
 by_cases hz:0≤i
 ·by_cases hs:i<100
  ·rw [decide_eq_true hz,decide_eq_true hs];obtain ⟨n,rfl⟩:∃ n:Nat,i=n:=⟨i.toNat,by omega⟩;rw [wn,Int.toNat_natCast,AAE (by omega)];rfl
  ·rw [decide_eq_true hz,decide_eq_false hs];rfl
 ·rw [decide_eq_false hz];rfl
theorem vw {i:Int} {rs:List PV} (h:pH i=some rs) : -9223372036854775808≤i∧i≤9223372036854775807∧rs=[.str ⟨(Lib.itoa i).toArray⟩]:=by
 cases hb:(decide (-9223372036854775808≤i)&&decide (i≤9223372036854775807)) with
 | false=>unfold pH at h;rw [hb] at h;cases h
 | true =>
  rw [zzj,decide_eq_true_eq,decide_eq_true_eq] at hb;rw [wm hb.1 hb.2] at h;exact ⟨hb.1,hb.2,(Option.some.inj h).symm⟩
theorem sF {P : Program} {f : FuncId} {T2 T3 T9 : TypeId} {fn : Func} (hfn : P.funcs[f]? = some fn) (hp : fn.params = #[T2, T3]) (hr : fn.resultTypes = #[T9]) (h2 : P.underlying T2 = some (.int .i64)) (h3 : P.underlying T3 = some (.int .i64)) (h9 : P.underlying T9 = some .string) (h9t : AW P T9 = some [T9])
    (hg:(P.globalNamed Pd).isSome=true) (hc:∀ (i:Int),-9223372036854775808≤i→i≤9223372036854775807→∀ w:World,Lib.TabIs P w Pd .u64 bI→Calls P f #[.int .i64 i,.int .i64 10] w fun e w'=>e=.returned (.string ⟨(Lib.itoa i).toArray⟩)∧∃ k os,w'=grow (w.drewN k) os)
    {E':Env} {N':Nat} (h:∀ ls,E' f [] ls=xK ls):VV P E' N' ⟨f,[],true,true,[],[]⟩:=by
  have l2:AL P T2=.int .i64:=by simp [AL,h2]
  have l3:AL P T3=.int .i64:=by simp [AL,h3]
  have l9:AL P T9=.str:=by simp [AL,h9]
  have a2:Ad P T2=false:=by simp [Ad,h2]
  have a3:Ad P T3=false:=by simp [Ad,h3]
  have a9:Ad P T9=false:=by simp [Ad,h9]
  have main : ∀ own', ∀ (ls rs : List PV), E' f [] ls = some rs → ∀ fn', P.funcs[f]? = some fn' → ∀ (vs : List (AV (std E' N'))) (hs : List (Nat × HEnt (std E' N'))), BP (O := std E' N') P [] 1 fn'.params.toList [] (ls.map PV.leaf) = some (vs, hs) →
      ∀ (n0:Nz) (σ:Nat→Option (Nat×Nat)) (w:World) (args:List Value),n0.n=w.heap.size→Mem P n0 noB σ (AY hs) w→RelArgs P n0 noB σ (AY hs) w vs args→Kept P n0 noB σ (AY hs) w→Calls P f args.toArray w (Ret (E:=E') (N:=N') P ⟨f,[],own',true,[],[]⟩ n0 σ (AY hs) w fn' rs) :=
    fun own' ls rs he fn' hfn' vs hs hv n0 σ w args hn0 m hra hkp=>by
      rw [hfn] at hfn';cases hfn';rw [h] at he;unfold xK at he
      split at he
      case h_2=>cases he
      rename_i n b;cases hb10:b==10 with
      | false=>rw [hb10] at he;cases he
      | true =>
      rw [hb10] at he;have hb:=beq_iff_eq.1 hb10;subst hb;obtain ⟨hn0,hn,rfl⟩:=vw he;rw [hp] at hv;unfold BP at hv;simp only [l2] at hv
      rcases yS (P:=P) (T:=T2) (fun k=>by simp [B5,h2]) with hT | hT
      · simp [hT] at hv
      simp only [hT,List.map_cons,List.map_nil,PV.leaf,Ao,l2,Option.map_some] at hv;unfold BP at hv;simp only [l3] at hv
      rcases yS (P:=P) (T:=T3) (fun k=>by simp [B5,h3]) with hT3 | hT3
      · simp [hT3] at hv
      simp [hT3,Ao,l3,BP,a2,a3] at hv;obtain ⟨rfl,rfl⟩:=hv;obtain ⟨v1,v2,rfl⟩:∃ v1 v2,args=[v1,v2]:=by
        have:=hra.len
        match args,this with
        | [v1,v2],_=>exact ⟨v1,v2,rfl⟩
      obtain ⟨q1,q2,_⟩:=hra;have q1:RelVal P n0 noB σ (AY []) w (⟨false,[.int .i64 n]⟩:Val (std E' N')) v1:=q1;have q2:RelVal P n0 noB σ (AY []) w (⟨false,[.int .i64 (10:Int)]⟩:Val (std E' N')) v2:=q2;obtain ⟨g1,g2⟩:=q1;have g2:v1.oneCell'=true:=g2;rw [Bf g2] at g1;have e1:v1=.int .i64 n:=g1.1;obtain ⟨k1,k2⟩:=q2;have k2:v2.oneCell'=true:=k2;rw [Bf k2] at k1;have e2:v2=.int .i64 10:=k1.1;subst e1;subst e2;obtain ⟨g0,hg0⟩:=Option.isSome_iff_exists.1 hg;refine Calls.mono (hc n hn0 hn w (hkp g0 hg0).1) (fun e w' hp2=>?_);obtain ⟨rfl,kk,os,rfl⟩:=hp2;refine ⟨rfl,rfl,rfl,by simp [grow,World.drewN],fun b hb _=>by simp [grow,World.drewN,Array.getElem?_append_left hb],fun q=>⟨fun _=>none,[⟨false,[.str _]⟩],[],?_,⟨fun _ _ h=>(by cases h),fun _ _ h=>(by cases h),fun _ _ _ _ _ h=>(by cases h),fun _ _ _ _ _ _ _ h=>(by cases h),fun _ _ _ _ _ _ h=>(by cases h)⟩,⟨⟨rfl,trivial⟩,rfl⟩,fun b hb=>?_⟩⟩
      · rw [hr];simp [Bz,h9t,A0,l9,a9];rfl
      · rcases hb with ⟨_,_,hx,_⟩ | ⟨_,_,_,hx,_⟩
        · cases hx
        · cases hx
  exact ⟨KX (ci:=⟨f,[],true,true,[],[]⟩) (main true),KX (ci:=⟨f,[],false,true,[],[]⟩) (main false)⟩
end Go.Px
end
section
namespace Go.Px
def rB (xs:List Bool):Rows:=xs.map fun n=>[PV.bool n]
theorem A9 {n:Int} (h1 : -9223372036854775808≤n) (h2:n≤9223372036854775807):IntKind.i64.wrap n=n:=by
 unfold IntKind.wrap;simp [IntKind.signed,IntKind.bits];omega
theorem AG (b:Bool) (x y:List PV) (k:List PV→Option (List PV)):(cond b (some x) (some y):Option (List PV)).bind k=k (cond b x y):=by cases b<;>rfl
theorem ABf (b:Bool) (x y:List PV) (j:Nat):pvB (AA (cond b x y) j)=cond b (pvB (AA x j)) (pvB (AA y j)):=by cases b<;>rfl
theorem ABd (b:Bool) (x y:List PV) (j:Nat):pvI (AA (cond b x y) j)=cond b (pvI (AA x j)) (pvI (AA y j)):=by cases b<;>rfl
theorem ABS (b:Bool) (x y:List PV) (j:Nat):pvS (AA (cond b x y) j)=cond b (pvS (AA x j)) (pvS (AA y j)):=by cases b<;>rfl
theorem ABg (b:Bool) (x y:List PV) (j:Nat):pvL (AA (cond b x y) j)=cond b (pvL (AA x j)) (pvL (AA y j)):=by cases b<;>rfl
theorem gj (b p:Bool):cond b p false=(b&&p):=by cases b<;>rfl
theorem AB2 (b p:Bool):cond b true p=(b||p):=by cases b<;>rfl
theorem AA4 (b p:Bool):cond b false p=(!b&&p):=by cases b<;>rfl
theorem ABo (b p:Bool):cond b p true=(!b||p):=by cases b<;>rfl
theorem ABA (b:Bool) (x y:List PV):cond b (some x) (some y)=some (cond b x y):=by cases b<;>rfl
theorem AAK {α:Type} (b:Bool) (x:α):cond b x x=x:=by cases b<;>rfl
theorem AAX (b p q:Bool):cond b [PV.bool p] [PV.bool q]=[PV.bool (cond b p q)]:=by cases b<;>rfl
theorem ka (p:PV) (r:List PV):AA (p::r) 0=p:=rfl
theorem vk (p:PV) (r:List PV) (j:Nat):AA (p::r) (j+1)=AA r j:=by simp [AA]
def iB {St:Type} (body:Nat→St→List PV ⊕ St) (fin:St→List PV):Nat→Nat→St→List PV
 | 0,_,s=>fin s
 | k+1,i,s=>match body i s with
  | .inl r=>r
  | .inr s'=>iB body fin k (i+1) s'
theorem kw {St : Type} {F : (List AU → Option (List PV)) → List PV → Option (List PV)} {len : Nat} {enc : Nat → St → List AU} {body : Nat → St → List PV ⊕ St} {fin : St → List PV} (I : Nat → St → Prop)
    (h0:∀ s self,I len s→F self ((enc len s).map Leaf.pv)=some (fin s))
    (h1:∀ i s self,i<len→I i s→F self ((enc i s).map Leaf.pv)=(match body i s with | .inl r=>some r | .inr s'=>self (enc (i+1) s'))∧∀ s',body i s=.inr s'→I (i+1) s') :
    ∀ (k i:Nat) (s:St) (n:Nat),i+k=len→k<n→I i s→DB F n ((enc i s).map Leaf.pv)=some (iB body fin k i s)
  | 0,i,s,n,hk,hn,hi=>by
    obtain ⟨n,rfl⟩:∃ m,n=m+1:=⟨n - 1,by omega⟩;obtain rfl:i=len:=by omega
    exact h0 s _ hi
  | k+1,i,s,n,hk,hn,hi=>by
    obtain ⟨n,rfl⟩:∃ m,n=m+1:=⟨n - 1,by omega⟩;obtain ⟨h2,h3⟩:=h1 i s (fun ls=>DB F n (ls.map Leaf.pv)) (by omega) hi;show F _ _=_;rw [h2];simp only [iB];cases hb:body i s with
    | inl r=>rfl
    | inr s'=>exact kw I h0 h1 k (i+1) s' n (by omega) (by omega) (h3 s' hb)
theorem AZ {F:(List AU→Option (List PV))→List PV→Option (List PV)} {n:Nat} {c r:List PV} {k:List PV→Option (List PV)} {g:Option (List PV)} (h:DB F n c=some r) (hk:k r=g):(DB F n c).bind k=g:=by
 rw [h];exact hk
def Bd (ans:Nat→Option (List PV)):Nat→Nat→Option (List PV)
 | 0,_=>none
 | k+1,i=>match ans i with
  | some r=>some r
  | none=>Bd ans k (i+1)
def SY:Option (List PV)→List PV
 | some r=>.int 0::r
 | none=>[.int 1]
theorem DN {F : (List AU → Option (List PV)) → List PV → Option (List PV)} {len : Nat} (ans : Nat → Option (List PV))
    (h0:∀ self,F self [.int (len:Int)]=some [.int 1]) (h1:∀ i self,i<len→F self [.int (i:Int)]=match ans i with | some r=>some (.int 0::r) | none=>self [.int ((i:Int)+1)]) :
    ∀ (k i n:Nat),i+k=len→k<n→DB F n [.int (i:Int)]=some (SY (Bd ans k i))
  | 0,i,n,hk,hn=>by
    obtain ⟨n,rfl⟩:∃ m,n=m+1:=⟨n - 1,by omega⟩;obtain rfl:i=len:=by omega
    exact h0 _
  | k+1,i,n,hk,hn=>by
    obtain ⟨n,rfl⟩:∃ m,n=m+1:=⟨n - 1,by omega⟩;have h2:=h1 i (fun ls=>DB F n (ls.map Leaf.pv)) (by omega);show F _ _=_;rw [h2];simp only [Bd];cases ha:ans i with
    | some r=>rfl
    | none =>
      have:=DN ans h0 h1 k (i+1) n (by omega) (by omega);show DB F n [.int ((i:Int)+1)]=_;rw [show ((i:Int)+1)=(((i+1:Nat)):Int) by omega];exact this
def CO (bad:Nat→Bool) (k i:Nat):Bool:=(List.range' i k).any bad
theorem Ka (bad:Nat→Bool) (i:Nat):CO bad 0 i=false:=rfl
theorem Cr (bad:Nat→Bool) (k i:Nat):CO bad (k+1) i=(bad i||CO bad k (i+1)):=by simp only [CO,List.range'_succ,List.any_cons]
theorem kg (bad:Nat→Bool) (r:List PV):∀ (k i:Nat),Bd (fun j=>cond (bad j) (some r) none) k i=cond (CO bad k i) (some r) none
 | 0,i=>rfl
 | k+1,i=>by
  rw [Cr];simp only [Bd];cases hb:bad i with
  | true=>rfl
  | false=>rw [Bool.false_or];exact kg bad r k (i+1)
theorem iD {f g:Nat→Bool}:∀ (k i:Nat),(∀ j,i≤j→j<i+k→f j=g j)→CO f k i=CO g k i
 | 0,i,_=>rfl
 | k+1,i,h=>by rw [Cr,Cr,h i (Nat.le_refl _) (by omega),iD k (i+1) (fun j h1 h2=>h j (by omega) (by omega))]
theorem Fa {f:Nat→Bool} {k i:Nat}:CO f k i=false↔∀ j,i≤j→j<i+k→f j=false:=by
 induction k generalizing i with
 | zero=>simp [Ka];intro j h1 h2;omega
 | succ k ih =>
  rw [Cr,Bool.or_eq_false_iff,ih];constructor
  ·intro ⟨h1,h2⟩ j h3 h4
   rcases Nat.lt_or_ge i j with h | h
   ·exact h2 j h (by omega)
   ·obtain rfl:j=i:=by omega
    exact h1
  ·intro h;exact ⟨h i (Nat.le_refl _) (by omega),fun j h1 h2=>h j (by omega) (by omega)⟩
theorem M6 {F : (List AU → Option (List PV)) → List PV → Option (List PV)} {len : Nat} (bad : Nat → Bool) (r : List PV)
    (h0:∀ self,F self [.int (len:Int)]=some [.int 1]) (h1:∀ i self,i<len→F self [.int (i:Int)]=cond (bad i) (some (.int 0::r)) (self [.int ((i:Int)+1)])) (n:Nat) (hn:len<n) :
    DB F n [.int 0]=some (cond (CO bad len 0) (.int 0::r) [.int 1]):=by
  have:=DN (F:=F) (len:=len) (fun j=>cond (bad j) (some r) none) h0 (fun i self hi=>by rw [h1 i self hi];cases bad i<;>rfl) len 0 n (by omega) hn;rw [show (0:Int)=((0:Nat):Int) from rfl,this,kg];cases CO bad len 0<;>rfl
theorem BO {i:Nat} (h:i≤1099511627776):IntKind.i64.wrap ((i:Int)+1)=(i:Int)+1:=A9 (by omega) (by omega)
theorem AN {i len:Nat} (h:i<len):iIn (i:Int) (len:Int)=true:=by simp [iIn];omega
theorem Ay {i len:Nat} (h:i<len):iLt (i:Int) (len:Int)=true:=by simp [iLt];omega
theorem A3 (len:Nat):iLt (len:Int) (len:Int)=false:=by simp [iLt]
theorem nQ {F : (List AU → Option (List PV)) → List PV → Option (List PV)} {len : Nat} (enc : Nat → List AU) (bad : Nat → Bool) (r fin : List PV)
    (h0:∀ self,F self ((enc len).map Leaf.pv)=some fin) (h1:∀ i self,i<len→F self ((enc i).map Leaf.pv)=cond (bad i) (some r) (self (enc (i+1)))) (n:Nat) (hn:len<n) :
    DB F n ((enc 0).map Leaf.pv)=some (cond (CO bad len 0) r fin):=by
  have main:∀ (k i n:Nat),i+k=len→k<n→DB F n ((enc i).map Leaf.pv)=some (cond (CO bad k i) r fin):=by
    intro k
    induction k with
    | zero =>
      intro i n hk hn;obtain ⟨n,rfl⟩:∃ m,n=m+1:=⟨n - 1,by omega⟩;obtain rfl:i=len:=by omega
      exact h0 _
    | succ k ih =>
      intro i n hk hn;obtain ⟨n,rfl⟩:∃ m,n=m+1:=⟨n - 1,by omega⟩;show F _ _=_;rw [h1 i _ (by omega),Cr];cases bad i with
      | true=>rfl
      | false=>exact ih (i+1) n (by omega) (by omega)
  exact main len 0 n (by omega) hn
theorem zt (k i:Nat):CO (fun _=>false) k i=false:=Fa.2 fun _ _ _=>rfl
theorem CA {F : (List AU → Option (List PV)) → List PV → Option (List PV)} {len : Nat} (enc : Nat → List AU) (fin : List PV)
    (h0:∀ self,F self ((enc len).map Leaf.pv)=some fin) (h1:∀ i self,i<len→F self ((enc i).map Leaf.pv)=self (enc (i+1))) (n:Nat) (hn:len<n) :
    DB F n ((enc 0).map Leaf.pv)=some fin:=by
  have:=nQ (F:=F) enc (fun _=>false) [] fin h0 h1 n hn;rw [zt] at this;exact this
def Hf (p:Nat→Bool):Nat→Option (List PV):=fun j=>cond (p j) (some [.int (j:Int)]) none
def Rl (p:Nat→Bool) (k:Nat):Int:=match Bd (Hf p) k 0 with
 | some r=>pvI (AA r 0)
 | none => -1
theorem cd (p:Nat→Bool):∀ k i,iLe 0 (match Bd (Hf p) k i with | some r=>pvI (AA r 0) | none => -1)=CO p k i
 | 0,i=>rfl
 | k+1,i=>by
  rw [Cr];simp only [Bd,Hf];cases h:p i with
  | true=>simp only [cond_true,ka,Bool.true_or,pvI,iLe];simp
  | false=>rw [Bool.false_or];exact cd p k (i+1)
theorem LQ (p:Nat→Bool) (k:Nat):iLe 0 (Rl p k)=CO p k 0:=cd p k 0
theorem ABq {i len:Nat} (h:i≤len):iRg 0 (i:Int) (len:Int)=true:=by simp [iRg];omega
theorem Gu {n b:Nat} (h:n≤4194304) (hb:b≤4096):iSm (n:Int) b=true:=by
 have:n * b≤4194304 * 4096:=Nat.mul_le_mul h hb;simp only [iSm,decide_eq_true_eq];refine ⟨by omega,by omega,?_,by omega⟩;rw [← Int.natCast_mul];omega
def atI (L:Rows) (i j:Nat):Int:=pvI (AF L i j)
theorem C9 (L:Rows) (i j:Nat):pvI (AF L i j)=atI L i j:=rfl
theorem wS {L:Rows} {i j k:Nat} (h:j<i):atI (L.take i) j k=atI L j k:=by
 unfold atI AF AB;simp only [zzk];rw [List.getElem?_take_of_lt h]
def Bq (p:Nat→Bool):Nat→Int
 | 0=>0
 | i+1=>cond (p i) (Bq p i+1) (Bq p i)
theorem pB (p:Nat→Bool):∀ i,0≤Bq p i∧Bq p i≤(i:Int)
 | 0=>by simp [Bq]
 | i+1=>by
  have:=pB p i;unfold Bq;cases p i<;>simp only [cond_true,cond_false]<;>omega
theorem oC (p:Nat→Bool) {i:Nat} (h:i≤1099511627776):IntKind.i64.wrap (Bq p i+1)=Bq p i+1:=by
 have:=pB p i;exact A9 (by omega) (by omega)
theorem NV {p q:Nat→Bool}:∀ i,(∀ j,j<i→p j=q j)→Bq p i=Bq q i
 | 0,_=>rfl
 | i+1,h=>by
  unfold Bq;rw [h i (by omega),NV i (fun j hj=>h j (by omega))]
theorem my {p q:Nat→Bool}:∀ i,(∀ j,j<i→p j=true→q j=true)→Bq p i≤Bq q i
 | 0,_=>by simp [Bq]
 | i+1,h=>by
  have h1:=my i (fun j hj=>h j (by omega));have h2:=h i (by omega);unfold Bq;cases hp:p i with
  | true=>rw [h2 hp];simp only [cond_true];omega
  | false=>cases q i<;>simp only [cond_true,cond_false]<;>omega
theorem wD {p q:Nat→Bool}:∀ i,(∀ j,j<i→p j=true→q j=true)→Bq p i=Bq q i→∀ j,j<i→p j=q j
 | 0,_,_=>fun j hj=>by omega
 | i+1,h,he=>by
  have h1:=my i (fun j hj=>h j (by omega));have h2:=h i (by omega);unfold Bq at he;intro j hj;have hpq:p i=q i∧Bq p i=Bq q i:=by
   cases hp:p i with
   | true =>
    have hq:=h2 hp;rw [hp,hq] at he;simp only [cond_true] at he;exact ⟨hq.symm,by omega⟩
   | false =>
    cases hq:q i with
    | true=>rw [hp,hq] at he;simp only [cond_true,cond_false] at he;omega
    | false=>rw [hp,hq] at he;simp only [cond_false] at he;exact ⟨rfl,he⟩
  rcases Nat.lt_or_ge j i with hji | hji
  ·exact wD i (fun j hj=>h j (by omega)) hpq.2 j hji
  ·obtain rfl:j=i:=by omega
   exact hpq.1
theorem vR {p q:Nat→Bool}:∀ i,(∀ j,j<i→p j=true→q j=false)→Bq (fun j=>p j||q j) i=Bq p i+Bq q i
 | 0,_=>rfl
 | i+1,h=>by
  have h1:=vR i (fun j hj=>h j (by omega));have h2:=h i (by omega);unfold Bq;rw [h1];cases hp:p i with
  | true=>rw [h2 hp];simp only [Bool.true_or,cond_true,cond_false];omega
  | false=>cases q i<;>simp only [Bool.false_or,cond_true,cond_false]<;>omega
theorem oH (s:Int):∀ (i:Nat),0≤s→Bq (fun j=>s==(j:Int)+1) i=cond (!(s==0)&&iLe s (i:Int)) 1 0
 | 0,hs=>by
  have:(!(s==0)&&iLe s ((0:Nat):Int))=false:=by
   rw [Bool.and_eq_false_iff]
   by_cases h:s=0
   ·subst h;exact .inl rfl
   ·exact .inr (by simp only [iLe,decide_eq_false_iff_not];omega)
  rw [this];rfl
 | i+1,hs=>by
  unfold Bq;rw [oH s i hs]
  by_cases h:s=(i:Int)+1
  ·have e1:(s==(i:Int)+1)=true:=by simp [h]
   have e2:iLe s (i:Int)=false:=by simp only [iLe,decide_eq_false_iff_not];omega
   have e3:iLe s ((i+1:Nat):Int)=true:=by simp only [iLe,decide_eq_true_eq];omega
   have e4:(s==0)=false:=by simp only [beq_eq_false_iff_ne];omega
   rw [e1,e2,e3,e4];rfl
  ·have e1:(s==(i:Int)+1)=false:=by simp [h]
   have e2:iLe s (i:Int)=iLe s ((i+1:Nat):Int):=by
    unfold iLe;rw [Bool.eq_iff_iff,decide_eq_true_eq,decide_eq_true_eq];omega
   rw [e1,e2];rfl
theorem Zc (f:Nat→Bool):∀ (k i:Nat),CO f (k+1) i=(CO f k i||f (i+k))
 | 0,i=>by rw [Cr,Ka,Ka];simp
 | k+1,i=>by rw [Cr,Zc f k (i+1),Cr f k i,Bool.or_assoc];congr 3;omega
theorem iG (f:Nat→Bool):∀ (k i:Nat),CO f k (i+1)=CO (fun j=>f (j+1)) k i
 | 0,i=>rfl
 | k+1,i=>by rw [Cr,Cr,iG f k (i+1)]
def MC (p:Int→Bool) (L:Rows):Bool:=CO (fun i=>p (atI L i 0)) L.length 0
theorem P2 (p:Int→Bool):∀ (L:Rows),MC p L=L.any fun r=>p (pvI (AA r 0))
 | []=>rfl
 | r::L=>by
  have ih:=P2 p L;unfold MC at ih ⊢;rw [List.length_cons,Cr,iG,List.any_cons,← ih];rfl
theorem nA (p:Int→Bool) (a b:Rows):MC p (a++b)=(MC p a||MC p b):=by
 rw [P2,P2,P2,List.any_append]
theorem PXb : (∀ {α β : Type} (f : α → β) (a : α) (l : List α), List.map f (a :: l) = f a :: List.map f l) ∧ (∀ {α β : Type} (f : α → β), List.map f [] = []) ∧
    (∀ i:Int,Leaf.pv (.int i:AU)=.int i)∧(∀ i:Bool,Leaf.pv (.bool i:AU)=.bool i)∧(∀ i:ByteArray,Leaf.pv (.str i:AU)=.str i)∧(∀ i:Rows,Leaf.pv (.rows i:AU)=.rows i) ∧
    (∀ {α β:Type} (a:α) (f:α→Option β),(some a).bind f=f a)∧(∀ (p:PV) (r:List PV),AA (p::r) 0=p)∧(∀ (p:PV) (r:List PV) (j:Nat),AA (p::r) (j+1)=AA r j) ∧
    (∀ n:Int,pvI (.int n)=n)∧(∀ n:Bool,pvB (.bool n)=n)∧(∀ n:ByteArray,pvS (.str n)=n)∧(∀ n:Rows,pvL (.rows n)=n) ∧
    (∀ b p:Bool,cond b p false=(b&&p))∧(∀ b p:Bool,cond b true p=(b||p))∧(∀ {α:Type} (a b:α),cond true a b=a)∧(∀ {α:Type} (a b:α),cond false a b=b) ∧
    (∀ a b:Bool,(a&&(a&&b))=(a&&b))∧(∀ a:Bool,(a&&a)=a)∧(∀ a b:Bool,(a||(a||b))=(a||b))∧(∀ a:Bool,(a||a)=a) ∧
    (∀ a:Bool,(a||true)=true)∧(∀ a:Bool,(a||false)=a)∧(∀ a:Bool,(true||a)=true)∧(∀ a:Bool,(false||a)=a) ∧
    (∀ a:Bool,(a&&true)=a)∧(∀ a:Bool,(a&&false)=false)∧(∀ a:Bool,(true&&a)=a)∧(∀ a:Bool,(false&&a)=false)∧((!true)=false)∧((!false)=true)∧(∀ a:Bool,(!(!a))=a) ∧
    (∀ n:Nat,(n:Int).toNat=n)∧(∀ {O:Alg} (x:Ags O) (j:Nat),xr x [] j=[]) ∧
    (∀ {O:Alg} (x:Ags O) (ks:List Nat) (j:Nat),xr x (0::ks) j=.int (x.I j)::xr x ks (j+1))∧(∀ {O:Alg} (x:Ags O) (ks:List Nat) (j:Nat),xr x (1::ks) j=.bool (x.B j)::xr x ks (j+1)) ∧
    (∀ {O:Alg} (x:Ags O) (ks:List Nat) (j:Nat),xr x (2::ks) j=.str (x.S j)::xr x ks (j+1))∧(∀ {O:Alg} (x:Ags O) (ks:List Nat) (j:Nat),xr x (3::ks) j=.rows (x.L j)::xr x ks (j+1)) ∧
    (∀ (O:Alg) (c:O.C) (j:Nat),cr O c [] j=[])∧(∀ (O:Alg) (c:O.C) (ks:List Nat) (j:Nat),cr O c (0::ks) j=.int (O.d c j)::cr O c ks (j+1))∧(∀ (O:Alg) (c:O.C) (ks:List Nat) (j:Nat),cr O c (1::ks) j=.bool (O.q c j)::cr O c ks (j+1)) ∧
    (∀ (O:Alg) (c:O.C) (ks:List Nat) (j:Nat),cr O c (2::ks) j=.str (O.cS c j)::cr O c ks (j+1))∧(∀ (O:Alg) (c:O.C) (ks:List Nat) (j:Nat),cr O c (3::ks) j=.rows (O.k c j)::cr O c ks (j+1)) ∧
    (∀ (O:Alg) (l:O.L) (i:O.I) (j:Nat),rr O l i [] j=[])∧(∀ (O:Alg) (l:O.L) (i:O.I) (ks:List Nat) (j:Nat),rr O l i (0::ks) j=.int (O.n l i j)::rr O l i ks (j+1))∧(∀ (O:Alg) (l:O.L) (i:O.I) (ks:List Nat) (j:Nat),rr O l i (1::ks) j=.bool (O.rB l i j)::rr O l i ks (j+1)) ∧
    (∀ (O:Alg) (l:O.L) (i:O.I) (ks:List Nat) (j:Nat),rr O l i (2::ks) j=.str (O.rS l i j)::rr O l i ks (j+1))∧(∀ (O:Alg) (l:O.L) (i:O.I) (ks:List Nat) (j:Nat),rr O l i (3::ks) j=.rows (O.rL l i j)::rr O l i ks (j+1)) ∧
    (kI=[0,0,0,0,0,0,0,0,0,0,0,0,0,0,3,0,3,3,1,3,1,0,0,0,3,0,0,0])∧(kR=[2,0,0,0,0,0,0,0,1,0,0,0,0,3])∧(kM=[2,0,0,0,0,0,0,0,1,0,0,0,0,3,0,0,1,3,0,0,0,0,0]) ∧
    (∀ (O:Alg) (b:List O.Lf),ap O [] b=b)∧(∀ (O:Alg) (x:O.Lf) (a b:List O.Lf),ap O (x::a) b=x::ap O a b) ∧
    (∀ {α:Type} (x:α) (a b:List α),x::a++b=x::(a++b))∧(∀ {α:Type} (b:List α),[]++b=b):=by
  repeat' apply And.intro
  all_goals first | decide | (intros;rfl) | exact vk | exact gj | exact AB2 | exact Int.toNat_natCast
theorem PXc : (∀ (b : Bool) (x y : List PV) (j : Nat), pvB (AA (cond b x y) j) = cond b (pvB (AA x j)) (pvB (AA y j))) ∧ (∀ (b : Bool) (x y : List PV) (j : Nat), pvI (AA (cond b x y) j) = cond b (pvI (AA x j)) (pvI (AA y j))) ∧
    (∀ (b:Bool) (x y:List PV) (j:Nat),pvS (AA (cond b x y) j)=cond b (pvS (AA x j)) (pvS (AA y j)))∧(∀ (b:Bool) (x y:List PV) (j:Nat),pvL (AA (cond b x y) j)=cond b (pvL (AA x j)) (pvL (AA y j))):=⟨ABf,ABd,ABS,ABg⟩
theorem PXn:(∀ a b:Bool,(!(a||b))=(!a && !b))∧(∀ a b:Bool,(!(a&&b))=(!a || !b))∧(∀ b p:Bool,cond b false p=(!b&&p))∧(∀ b p:Bool,cond b p true=(!b||p)):=⟨by decide,by decide,AA4,ABo⟩
end Go.Px
end
