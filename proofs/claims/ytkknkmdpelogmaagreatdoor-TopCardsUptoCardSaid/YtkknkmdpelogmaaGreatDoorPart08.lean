/- Part 8. -/
import Derived.Test.YtkknkmdpelogmaaGreatDoorPart07
import Derived.WalkSpells
set_option linter.unusedVariables false
set_option linter.unusedSimpArgs false
section
namespace Go.Px
section
variable {E:Env} {N:Nat} {P:Program} {cfg:Cfg} {n0 n0':Nz} {nt:Nat} {β β':Nat→Option Nat} {σ σ':Nat→Option (Nat×Nat)} {s s' s2:St0 E N} {a a':Act} {w w':World}
theorem dG{n:Nat}:(cleaned s).getB n=(s.getB n).map fun e=>{ e with dirty:=false }:=by
 show AN (s.bx.map fun(n,e)=>(n,{ e with dirty:=false })) n=_;exact Ws (fun e:BEnt (std E N)=>{ e with dirty:=false }) s.bx n
theorem Wi{n:Nat}:(cleaned s).getH n=(s.getH n).map fun e=>{ e with dirty:=false }:=by
 show AN (s.hp.map fun(n,e)=>(n,{ e with dirty:=false })) n=_;exact Ws (fun e:HEnt (std E N)=>{ e with dirty:=false }) s.hp n
theorem Hz:Sub s (cleaned s) where
 b n e h:=by
  rw[dG]at h;obtain⟨e0,h0,rfl⟩:=zzp.1 h;exact⟨e0,h0,rfl⟩
 h n e h:=by
  rw[Wi]at h;obtain⟨e0,h0,rfl⟩:=zzp.1 h;exact⟨e0,h0,rfl,rfl,rfl,fun h=>h⟩
theorem Sim.cleaned(hs:Sim P n0 nt β σ s a w):Sim P n0 nt β σ (cleaned s) a w:=
 ⟨hs.n0le,hs.size,fun n tv hn=>by
  rcases hs.T n tv hn with⟨h1,h2⟩|h1
  ·exact .inl ⟨h1,(Hz.ext P n0 (fun _=>False) β σ w).relAV (fun _ _ h=>h) h2⟩
  exact .inr h1,Hz.mem hs.M,hs.kept.ext (Hz.ext P n0 (fun _=>False) β σ w)⟩
theorem WF.cleaned(h:WF s):WF (cleaned s):=
 ⟨fun n hn=>⟨⟨fun k e he=>by
  obtain⟨e0,h0,hc⟩:=Hz.b k e he;have:=(h.fresh n hn).1.1 k e0 h0;exact⟨this.1,by rw[hc];exact this.2⟩,fun k e he=>by
  obtain⟨e0,h0,_⟩:=Hz.h k e he;exact(h.fresh n hn).1.2 k e0 h0⟩,(h.fresh n hn).2⟩,h.gs⟩
structure Since(P:Program)(n0:Nz)(nt:Nat)(m:Ms)(β:Nat→Option Nat)(σ:Nat→Option (Nat×Nat))(s:St0 E N)(a:Act)(w:World)(β':Nat→Option Nat)(σ':Nat→Option (Nat×Nat))(s':St0 E N)(a':Act)(w':World):Prop where
 sim:Sim P n0 nt β' σ' s' a' w'
 ext:Ext P n0 (fun n=>s.st≤n) β σ s w β' σ' s' w'
 tmps:∀n,¬m.t.testBit n=true→a'.tmps.getD n undef=a.tmps.getD n undef
 defers:a'.defers=a.defers
 B:∀n e e',s.getB n=some e→n∉DV s m→s'.getB n=some e'→e'.dirty=false→e'.cs=e.cs
 H:∀n e e',s.getH n=some e→n∉Zy s m→s'.getH n=some e'→e'.dirty=false→e'.e=e.e∧e'.l=e.l∧e'.nw=e.nw∧e'.frozen=e.frozen
theorem Post.since{m:Ms}(h:Post P n0 nt s.st (fun n=>m.t.testBit n=true) β σ (cleaned s) a w β' σ' s' a' w'):Since P n0 nt m β σ s a w β' σ' s' a' w' where
 sim:=h.sim
 ext:=((Hz.ext P n0 (fun _=>False) β σ w).trans h.ext).weaken (fun n h=>h.elim (fun h=>h.elim) (fun h=>h))
 tmps:=h.tmps
 defers:=h.defers
 B n e e' h1 _ h2 h3:=by
  have:=h.cleanB n e' h2 h3;rw[dG,h1]at this;cases this;rfl
 H n e e' h1 _ h2 h3:=by
  have:=h.cleanH n e' h2 h3;rw[Wi,h1]at this;cases this;exact⟨rfl,rfl,rfl,rfl⟩
theorem Post.keptH{L:Nat}{D:Nat→Prop}(h:Post P n0 nt L D β σ (cleaned s) a w β' σ' s' a' w'){n:Nat}{e e':HEnt (std E N)}(h1:s.getH n=some e)(h2:s'.getH n=some e')(h3:e'.dirty=false):e'.e=e.e∧e'.l=e.l∧e'.nw=e.nw∧e'.frozen=e.frozen:=by
 have:=h.cleanH n e' h2 h3;rw[Wi,h1]at this;cases this;exact⟨rfl,rfl,rfl,rfl⟩
theorem Since.weaken{m m':Ms}(h:Since P n0 nt m β σ s a w β' σ' s' a' w')(hle:∀n,m.t.testBit n=true→m'.t.testBit n=true)(hB:∀n,n∈DV s m→n∈DV s m')(hH:∀n,n∈Zy s m→n∈Zy s m') :
    Since P n0 nt m' β σ s a w β' σ' s' a' w':=
  ⟨h.sim,h.ext,fun n hn=>h.tmps n (fun k=>hn (hle n k)),h.defers,fun n e e' h1 h2=>h.B n e e' h1 (fun k=>h2 (hB n k)),fun n e e' h1 h2=>h.H n e e' h1 (fun k=>h2 (hH n k))⟩
theorem vI:∀{hs:List (Nat×TypeId×Bool)} {a:List AW},dR (O:=std E N) s' hs=.ok a→a.length=hs.length
 | [],a,h=>by simp only[dR]at h;cases h;rfl
 |(k,e,nw)::r,a,h=>by
  simp only[dR]at h
  split at h
  ·cases h
  split at h
  ·cases h
  split at h
  ·rename_i ls hls;cases h;rw[List.length_cons,List.length_cons,vI hls]
  cases h
theorem uC:∀{hs:List (Nat×TypeId×Bool)} {a:List AW},dR (O:=std E N) s' hs=.ok a→∀{cv:List PV} {j:Nat},Holds cv j a→∀{n:Nat} {h:HEnt (std E N)},AN (Ra (O:=std E N) cv j hs) n=some h →
    n∈hs.map (·.1)∧h.dirty=true∧∃h',s'.getH n=some h'∧h'.e=h.e∧h'.l=h.l∧h'.nw=h.nw∧h'.frozen=h.frozen
  | [],a,_,cv,j,_,n,h,hh=>by simp[Ra,AN]at hh
  |(k,e,nw)::r,a,henc,cv,j,hc,n,h,hh=>by
    simp only[dR]at henc
    split at henc
    · cases henc
    rename_i h0 hg
    split at henc
    · cases henc
    rename_i hb
    split at henc
    case h_2=>cases henc
    rename_i ls hls;cases henc;simp only[Ra,AN]at hh
    split at hh
    · rename_i hk;have:=AE.1 hk;subst this;cases hh;simp only[zzk,Bool.not_eq_true',beq_iff_eq]at hb;refine⟨zzm,rfl,h0,hg,AE.1 hb.1,?_,hb.2.2,hb.2.1⟩;show h0.l=pvL (AA cv j);rw[hc.head];rfl
    obtain⟨h1,h2⟩:=uC hls hc.tail hh;exact⟨zzn _ h1,h2⟩
theorem vM{cv:List PV}:∀{hs:List (Nat×TypeId×Bool)} {j:Nat},(Ra (O:=std E N) cv j hs).map (·.1)=hs.map (·.1)
 | [],_=>rfl
 |(k,e,nw)::r,j=>by simp only[Ra,List.map_cons,vM]
theorem zF{x:Way (std E N)}{cv:List PV}{j:Nat}:(x.baseC cv j).hp.map (·.1)=x.keep:=by
 unfold Way.baseC Way.keep;simp only[List.map_append,vM]
theorem ADL{x:Way (std E N)}{ls:List AW}(h:x.encL s'=.ok ls):∃a b,dR (O:=std E N) s' x.hs=.ok a∧JF (O:=std E N) s' x.keep [] x.slots=.ok b∧ls=a++b:=by
 unfold Way.encL at h
 split at h
 ·cases h
 rename_i a ha
 split at h
 ·cases h
 rename_i b hb;cases h;exact⟨a,b,ha,hb,rfl⟩
theorem eY{x:Way (std E N)}{cv:List PV}{j n:Nat}{h:HEnt (std E N)}(hg:(x.baseC cv j).getH n=some h):AN (Ra (O:=std E N) cv j x.hs) n=some h∨AN x.base.hp n=some h:=by
 have hg:AN (Ra (O:=std E N) cv j x.hs++x.base.hp) n=some h:=hg;rw[Ir]at hg;cases e:AN (Ra (O:=std E N) cv j x.hs) n with
 |some y=>rw[e]at hg;exact .inl hg
 |none=>rw[e]at hg;exact .inr hg
theorem mt{cv:List PV}:∀{hs:List (Nat×TypeId×Bool)} {j n:Nat} {h:HEnt (std E N)},AN (Ra (O:=std E N) cv j hs) n=some h→n∈hs.map (·.1)∧h.dirty=true
 | [],j,n,h,hh=>by simp[Ra,AN]at hh
 |(k,e,nw)::r,j,n,h,hh=>by
  simp only[Ra,AN]at hh
  split at hh
  ·rename_i hk;have:=AE.1 hk;subst this;cases hh;exact⟨zzm,rfl⟩
  obtain⟨h1,h2⟩:=mt hh;exact⟨zzn _ h1,h2⟩
theorem jf(hs:Sim P n0 nt β σ s a w)(wf:WF s){e:Ex}{m:Ms}{live:Nat}{x:Way (std E N)}(hx:NT cfg s e m live=.ok x)(h:Since P n0 nt m β σ s a w β' σ' s' a' w')
    (hcB:∀n e,AN x.base.bx n=some e→∃e',s'.getB n=some e'∧e'.cs=e.cs) (hcH:∀n e,AN x.base.hp n=some e→∃e',s'.getH n=some e'∧e'.e=e.e∧e'.l=e.l∧e'.nw=e.nw∧e'.frozen=e.frozen)
    {ls:List AW} (hL:x.encL s'=.ok ls) {cv:List PV} {j:Nat} (hcv:Holds cv j ls) :
    ∃σ2,Joined P n0 nt s.st β' σ' s' a' w' (x.baseC cv j) x.slots (B1 (O:=std E N) cv (j+x.hs.length) x.base.st x.slots (x.baseC cv j)) σ2:=by
  obtain⟨h1,h2,h3,h4,h5,h6⟩:=JG hx;obtain⟨la,lb,hea,heb,rfl⟩:=ADL hL;have hlen:=vI hea;have hcvb:Holds cv (j+x.hs.length) lb:=by rw[←hlen];exact hcv.right
  generalize hjj:j+x.hs.length=j2 at *
  suffices hh:∃(σ2:Nat→Option (Nat×Nat)) (S:St0 E N),S=B1 (O:=std E N) cv (j2+([]:List SlotC).length) (s.st+(AR E N cv j2 s.st []).2.length) x.slots { x.baseC cv j with hp:=(AR E N cv j2 s.st []).2++(x.baseC cv j).hp } ∧
      RelCs P n0 β' σ2 S w' (AR E N cv j2 s.st []).1 []∧(∀n∈AJ (AR E N cv j2 s.st []).1,n<S.st)∧Joined P n0 nt s.st β' σ' s' a' w' (x.baseC cv j) x.slots S σ2 by
    obtain⟨σ2,S,hS,_,_,hj⟩:=hh;refine⟨σ2,?_⟩;have:B1 (O:=std E N) cv j2 x.base.st x.slots (x.baseC cv j)=S:=by
      rw[hS];show B1 (O:=std E N) cv j2 x.base.st x.slots (x.baseC cv j)=B1 cv j2 s.st x.slots (x.baseC cv j);rw[h2]
    rw[this];exact hj
  refine ABR (L:=s.st) (base:=x.baseC cv j) (rs:=[]) (cs:=[]) (vals:=[]) h.sim (fun n tv hn=>?_) (fun n e he=>?_) (fun n e he=>?_) trivial (fun b c hm=>?_) (used:=[]) (ls1:=[]) rfl (by rw[zF];exact heb) (cv:=cv) (j:=j2) (by simpa using hcvb)
  · obtain⟨g1,g2⟩:=h5 n tv hn;have hlt:∀k∈tv.v.names,k<s.st:=fun k hk=>Nat.lt_of_not_le (fun hle=>(wf.fresh k hle).2 n tv g1 hk)
    refine⟨wf.gs n tv g1,?_,hlt⟩;rw[h.tmps n g2]
    rcases hs.T n tv g1 with⟨_,q⟩|⟨q,_⟩
    · exact h.ext.relAV (fun k hk hn=>by have:=hlt k hk;omega) q
    exact(q (fun n b hm=>by rw[wf.gs _ tv g1]at hm;simp at hm)).elim
  · have he':AN x.base.bx n=some e:=he;have g3:=hcB n e he';rw[h3]at he';obtain⟨g1,g2⟩:=Li.1 he';exact⟨Nat.lt_of_not_le (fun hle=>((wf.fresh n hle).1.1 n e g1).1 rfl),g3,fun k hk=>Nat.lt_of_not_le (fun hle=>((wf.fresh k hle).1.1 n e g1).2 hk)⟩
  · rcases eY he with he'|he'
    · obtain⟨q1,_,q2⟩:=uC hea hcv.left he';rw[sV hx]at q1;obtain⟨_,h0,q3,_⟩:=MI q1;exact⟨Nat.lt_of_not_le (fun hle=>(wf.fresh n hle).1.2 n h0 q3 rfl),q2⟩
    have g3:=hcH n e he';rw[h4]at he';obtain⟨g1,g2⟩:=LJ.1 he';exact⟨Nat.lt_of_not_le (fun hle=>(wf.fresh n hle).1.2 n e g1 rfl),g3⟩
  obtain⟨_,e,he⟩:=h6 b c hm;exact Nat.lt_of_not_le (fun hle=>((wf.fresh b hle).1.1 b e he).1 rfl)
theorem Since.kept{e:Ex}{m:Ms}{live:Nat}{x:Way (std E N)}(hx:NT cfg s e m live=.ok x)(h:Since P n0 nt m β σ s a w β' σ' s' a' w')(hcB:SU s' x.base.bx=true)(hcH:R6 s' x.base.hp=true) :
    (∀n e,AN x.base.bx n=some e→∃e',s'.getB n=some e'∧e'.cs=e.cs)∧(∀n e,AN x.base.hp n=some e→∃e',s'.getH n=some e'∧e'.e=e.e∧e'.l=e.l∧e'.nw=e.nw∧e'.frozen=e.frozen):=by
  obtain⟨h1,h2,h3,h4,h5,h6⟩:=JG hx;refine⟨fun n e he'=>?_,fun n e he'=>?_⟩
  · obtain⟨e',g3,g4⟩:=ZZ hcB he';rw[h3]at he';obtain⟨g1,g2⟩:=Li.1 he';exact⟨e',g3,h.B n e e' g1 g2 g3 g4⟩
  obtain⟨e',g3,g4⟩:=Zr hcH he';rw[h4]at he';obtain⟨g1,g2⟩:=LJ.1 he';exact⟨e',g3,h.H n e e' g1 g2 g3 g4⟩
theorem Joined.post{e:Ex}{m:Ms}{live:Nat}{x:Way (std E N)}{S:St0 E N}{σ2:Nat→Option (Nat×Nat)}{cv:List PV}{j:Nat}(hx:NT cfg s e m live=.ok x)(h:Since P n0 nt m β σ s a w β' σ' s' a' w')
    (hj:Joined P n0 nt s.st β' σ' s' a' w' (x.baseC cv j) x.slots S σ2):Post P n0 nt s.st (fun n=>m.t.testBit n=true) β σ s a w β' σ2 S a' w':=by
  obtain⟨h1,h2,h3,h4,h5,h6⟩:=JG hx;refine⟨hj.sim,(h.ext.trans hj.ext).weaken (fun n h=>h.elim id id),fun n e he hd=>?_,fun n e he hd=>?_,h.defers,h.tmps⟩
  · have:=hj.cleanB n e he hd;have he':AN x.base.bx n=some e:=this;rw[h3]at he';exact(Li.1 he').1
  rcases eY (hj.cleanH n e he hd)with he'|he'
  · rw[(mt he').2]at hd;cases hd
  rw[h4]at he';exact(LJ.1 he').1
theorem tw{a b:Ex}:ABW a b=true↔a=b:=by
 cases a<;>cases b<;>simp[ABW]
theorem dZ{tagged:Bool}{ex:Ex}{c0:List PV}:∀{ws:List (Way (std E N))} {i:Nat},L2 (O:=std E N) tagged ex s' i ws=some c0 →
    ∃(k:Nat) (x:Way (std E N)),ws[k]?=some x∧x.e=ex∧(∀(j:Nat) (y:Way (std E N)),j<k→ws[j]?=some y→y.e≠ex)∧x.enc (match tagged with|true=>some (i+k)|false=>none) s'=some c0
  | [],i,h=>by cases h
  |x::ws,i,h=>by
    simp only[L2]at h
    split at h
    · rename_i he;exact⟨0,x,rfl,(tw.1 he).symm,fun j y hj=>by omega,h⟩
    rename_i he;obtain⟨k,y,h1,h2,h3,h4⟩:=dZ h;refine⟨k+1,y,by simpa using h1,h2,fun j z hj hz=>?_,by rw[show i+(k+1)=i+1+k by omega];exact h4⟩;cases j with
    |zero=>simp at hz;subst hz;intro e;rw[tw.2 e.symm]at he;cases he
    |succ j=>exact h3 j z (by omega) (by simpa using hz)
def ADx(tag:Option Nat)(l:List PV):List PV:=match tag with
 |some t=>.int t::l
 |none=>l
theorem AAb{x:Way (std E N)}{tag:Option Nat}{c0:List PV}(h:x.enc tag s'=some c0):SU s' x.base.bx=true∧R6 s' x.base.hp=true∧∃ls,x.encL s'=.ok ls ∧
    c0=ADx tag (ls.map Leaf.pv):=by
  unfold Way.enc at h
  split at h
  · rename_i h1 h2
    split at h
    · rename_i ls hl;refine⟨h1,h2,ls,hl,?_⟩;cases tag with
      |none=>exact(Option.some.inj h).symm
      |some t=>exact(Option.some.inj h).symm
    cases h
  cases h
theorem gk{c0:List PV}{k:Ex→St0 E N→Option (List PV)}{r:List PV}{x:Way (std E N)}{t:List PV}:∀{ws:List (Way (std E N))} {i n:Nat},Nl (O:=std E N) c0 k true i ws=some r→c0=PV.int (i+n:Nat)::t→ws[n]?=some x→k x.e (x.dec true c0)=some r
 | [],i,n,h,_,hx=>by simp at hx
 | [y],i,n,h,hc,hx=>by
  cases n with
  |zero=>simp at hx;subst hx;exact h
  |succ n=>simp at hx
 |y::z::ws,i,n,h,hc,hx=>by
  have h':(cond (pvI (AA c0 0)==((i:Nat):Int)) (k y.e (y.dec true c0)) (Nl (O:=std E N) c0 k true (i+1) (z::ws)))=some r:=h;have hp:pvI (AA c0 0)=((i+n:Nat):Int):=by rw[hc];rfl
  rw[hp]at h';cases n with
  |zero=>simp at hx;subst hx;simpa using h'
  |succ n=>
   have:(((i+(n+1):Nat):Int)==((i:Nat):Int))=false:=by simp;omega
   rw[this]at h';exact gk (i:=i+1) (n:=n) h' (by rw[hc];congr 2;omega) (by simpa using hx)
theorem yS{A:An}{lv:Lv}{ws:List (Way (std E N))}(h:Yu cfg s A lv=.ok ws){k:Nat}{x:Way (std E N)}(hx:ws[k]?=some x)(hfst:∀(j:Nat) (y:Way (std E N)),j<k→ws[j]?=some y→y.e≠x.e) :
    ∃m,A.at x.e=some m∧NT cfg s x.e m (lv.of x.e)=.ok x:=by
  unfold Yu at h;have hone:∀(e:Ex) (o:Option Ms) (l:List (Way (std E N))),dr cfg s lv e o=.ok l →
      (o=none∧l=[])∨∃m y,o=some m∧l=[y]∧NT cfg s e m (lv.of e)=.ok y:=fun e o l h=>by
    cases o with
    |none=>cases h;exact .inl ⟨rfl,rfl⟩
    |some m=>
      simp only[dr]at h
      split at h
      · rename_i y hy;cases h;exact .inr ⟨m,y,rfl,rfl,hy⟩
      cases h
  have hexts:∀(l:List (Nat×Ms)) (z:List (Way (std E N))),ZR cfg s lv l=.ok z →
      ∀(k:Nat) (x:Way (std E N)),z[k]?=some x→(∀(j:Nat) (y:Way (std E N)),j<k→z[j]?=some y→y.e≠x.e)→∃id m,x.e=.ext id∧Bd l id=some m∧NT cfg s x.e m (lv.of x.e)=.ok x:=fun l=>by
    induction l with
    |nil=>intro z h k x hx;simp only[ZR]at h;cases h;simp at hx
    |cons p l ih=>
      obtain⟨id,m⟩:=p;intro z h k x hx hf;simp only[ZR]at h
      split at h
      · rename_i a b ha hb;cases h
        rcases hone (.ext id) (some m) a ha with⟨h1,_⟩|⟨m',y,h1,h2,h3⟩
        · cases h1
        cases h1;subst h2;have hye:=(JG h3).1;cases k with
        |zero=>
          simp at hx;subst hx;exact⟨id,m,hye,by simp only[Bd,AE.2 rfl],by rw[hye];exact h3⟩
        |succ k=>
          obtain⟨id',m',q1,q2,q3⟩:=ih b hb k x (by simpa using hx) (fun j y' hj hy=>hf (j+1) y' (by omega) (by simpa using hy));refine⟨id',m',q1,?_,q3⟩;have hne:=hf 0 y (by omega) rfl;rw[hye,q1]at hne;simp only[Bd];rw[Bt.2 (fun e=>hne (by rw[e]))];exact q2
      · cases h
      cases h
  split at h
  · rename_i x0 y0 z0 hx0 hy0 hz0;cases h
    rcases hone .nrm A.nrm x0 hx0 with⟨a1,a2⟩|⟨m1,y1,a1,a2,a3⟩<;>rcases hone .ret A.ret y0 hy0 with⟨b1,b2⟩|⟨m2,y2,b1,b2,b3⟩
    · subst a2;subst b2;obtain⟨id,m,q1,q2,q3⟩:=hexts _ _ hz0 k x (by simpa using hx) (fun j y hj hy=>hfst j y hj (by simpa using hy));exact⟨m,by rw[q1];exact q2,q3⟩
    · subst a2;subst b2;have hye:=(JG b3).1;cases k with
      |zero=>simp at hx;subst hx;exact⟨m2,by rw[hye];exact b1,by rw[hye];exact b3⟩
      |succ k=>
        obtain⟨id,m,q1,q2,q3⟩:=hexts _ _ hz0 k x (by simpa using hx) (fun j y hj hy=>hfst (j+1) y (by omega) (by simpa using hy));exact⟨m,by rw[q1];exact q2,q3⟩
    · subst a2;subst b2;have hye:=(JG a3).1;cases k with
      |zero=>simp at hx;subst hx;exact⟨m1,by rw[hye];exact a1,by rw[hye];exact a3⟩
      |succ k=>
        obtain⟨id,m,q1,q2,q3⟩:=hexts _ _ hz0 k x (by simpa using hx) (fun j y hj hy=>hfst (j+1) y (by omega) (by simpa using hy));exact⟨m,by rw[q1];exact q2,q3⟩
    subst a2;subst b2;have hye:=(JG a3).1;have hye2:=(JG b3).1
    match k with
    |0=>simp at hx;subst hx;exact⟨m1,by rw[hye];exact a1,by rw[hye];exact a3⟩
    |1=>simp at hx;subst hx;exact⟨m2,by rw[hye2];exact b1,by rw[hye2];exact b3⟩
    |k+2=>
      obtain⟨id,m,q1,q2,q3⟩:=hexts _ _ hz0 k x (by simpa using hx) (fun j y hj hy=>hfst (j+2) y (by omega) (by simpa using hy));exact⟨m,by rw[q1];exact q2,q3⟩
  · cases h
  · cases h
  cases h
theorem R5{pre:List PV}{ls:List AW}:Holds (pre++ls.map Leaf.pv) pre.length ls:=fun i l hl=>by
 unfold AA;rw[zzl,List.getElem?_append_right (by omega)];rw[show pre.length+i-pre.length=i by omega,List.getElem?_map,hl];rfl
theorem leave(hs:Sim P n0 nt β σ s a w)(wf:WF s){A:An}{lv:Lv}{ws:List (Way (std E N))}(hws:Yu cfg s A lv=.ok ws){ex:Ex}{c0 r:List PV}{k:Ex→St0 E N→Option (List PV)}(h1:L2 (O:=std E N) (Nat.blt 1 ws.length) ex s' 0 ws=some c0)
    (h2:Nl (O:=std E N) c0 k (Nat.blt 1 ws.length) 0 ws=some r) :
    ∃m,A.at ex=some m∧(Since P n0 nt m β σ s a w β' σ' s' a' w'→∃S σ2,k ex S=some r∧Post P n0 nt s.st (fun n=>m.t.testBit n=true) β σ s a w β' σ2 S a' w'∧WF S∧s.st≤S.st):=by
  obtain⟨i,x,g1,g2,g3,g4⟩:=dZ h1;subst g2;obtain⟨m,q1,q2⟩:=yS hws g1 g3;refine⟨m,q1,fun hsince=>?_⟩;cases ht:Nat.blt 1 ws.length
  · rw[ht]at h2 g4;obtain⟨e1,e2,ls,e3,e4⟩:=AAb g4;have e4:c0=ls.map Leaf.pv:=e4;have hlen:ws.length≤1:=by
      rcases Nat.lt_or_ge 1 ws.length with h|h
      · rw[A5.2 h]at ht;cases ht
      exact h
    have hi:=(List.getElem?_eq_some_iff.1 g1).1;obtain⟨y,rfl⟩:∃y,ws=[y]:=by
      match ws,hlen,hi with
      | [y],_,_=>exact⟨y,rfl⟩
    have:i=0:=by simp at hi;exact hi
    subst this;simp at g1;subst g1;have hk:k y.e (y.dec false c0)=some r:=h2;obtain⟨σ2,hj⟩:=jf hs wf q2 hsince (hsince.kept q2 e1 e2).1 (hsince.kept q2 e1 e2).2 e3 (cv:=c0) (j:=0) (by rw[e4];exact R5 (pre:=[]));exact⟨_,σ2,hk,hj.post q2 hsince,hj.wf,hj.st⟩
  rw[ht]at h2 g4;obtain⟨e1,e2,ls,e3,e4⟩:=AAb g4;have e4:c0=PV.int ((0+i:Nat):Int)::ls.map Leaf.pv:=e4;have hk:=gk h2 e4 g1;obtain⟨σ2,hj⟩:=jf hs wf q2 hsince (hsince.kept q2 e1 e2).1 (hsince.kept q2 e1 e2).2 e3 (cv:=c0) (j:=1) (by rw[e4];exact R5 (pre:=[PV.int ((0+i:Nat):Int)]));exact⟨_,σ2,hk,hj.post q2 hsince,hj.wf,hj.st⟩
end
def jy:Ex→Exit
 | .nrm=>.normal
 | .ext id=>.exit id
 | .ret=>.ret
abbrev Run(E:Env)(N:Nat):=Code→Bool→Lv→St0 E N→(Ex→St0 E N→Option (List PV))→Option (List PV)
def Arr{E:Env}{N:Nat}(P:Program)(n0:Nz)(nt:Nat)(A:An)(β:Nat→Option Nat)(σ:Nat→Option (Nat×Nat))(s:St0 E N)(a:Act)(w:World)(k:Ex→St0 E N→Option (List PV))(r:List PV)(Q:Exit→Act→World→Prop):Prop:=
 ∀(ex:Ex) (s':St0 E N) (β':Nat→Option Nat) (σ':Nat→Option (Nat×Nat)) (a':Act) (w':World),k ex s'=some r→∀m,A.at ex=some m→Post P n0 nt s.st (fun n=>m.t.testBit n=true) β σ s a w β' σ' s' a' w'→WF s'→s.st≤s'.st→Q (jy ex) a' w'
def sM{E:Env}{N:Nat}(P:Program)(R:Run E N):Prop:=
 ∀(n0:Nz) (nt:Nat) (c:Code),DY nt c=true→∀(light:Bool) (lv:Lv) (s:St0 E N) (k:Ex→St0 E N→Option (List PV)) (r:List PV) (β:Nat→Option Nat) (σ:Nat→Option (Nat×Nat)) (a:Act) (w:World) (Q:Exit→Act→World→Prop),
  R c light lv s k=some r→Sim P n0 nt β σ s a w→WF s→Arr P n0 nt (an P c) β σ s a w k r Q→c.wp P Q a w
section
variable {E:Env} {N:Nat} {P:Program} {cfg:Cfg} {n0 n0':Nz} {nt:Nat} {β β':Nat→Option Nat} {σ σ':Nat→Option (Nat×Nat)} {s s' s2:St0 E N} {a a':Act} {w w':World}
theorem Post.wide{L:Nat}{D D':Nat→Prop}(h:Post P n0 nt L D β σ s a w β' σ' s' a' w')(hd:∀n,D n→D' n):Post P n0 nt L D' β σ s a w β' σ' s' a' w':=
 ⟨h.sim,h.ext,h.cleanB,h.cleanH,h.defers,fun n hn=>h.tmps n (fun k=>hn (hd n k))⟩
theorem Post.refl(hs:Sim P n0 nt β σ s a w){L:Nat}{D:Nat→Prop}:Post P n0 nt L D β σ s a w β σ s a w:=
 ⟨hs,Ext.refl _ _ _ _ _ _ _,fun n e h _=>h,fun n e h _=>h,rfl,fun _ _=>rfl⟩
theorem vX{x y:Code}{ex:Ex}{m:Ms}(hne:ex≠.nrm)(h:(an P x).at ex=some m):Wide ((an P (.seq x y)).at ex) m:=by
 simp only[an];generalize an P x=A at h⊢;obtain⟨n,r,e⟩:=A;cases n with
 |none=>cases ex<;>first|exact(hne rfl).elim|exact⟨m,h,Ms.le_refl _⟩
 |some m1=>
  generalize an P y=B;obtain⟨n',r',e'⟩:=B;cases ex with
  |nrm=>exact(hne rfl).elim
  |ret=>exact Wide.orL ⟨m,h,Ms.le_refl _⟩
  |ext id=>exact Wide.allR ⟨m,h,Ms.le_refl _⟩
theorem ABt{x y:Code}{ex:Ex}{m m':Ms}(h:(an P x).at .nrm=some m)(k:(an P y).at ex=some m'):Wide ((an P (.seq x y)).at ex) (m.or m'):=by
 simp only[an];generalize an P x=A at h⊢;obtain⟨n,r,e⟩:=A;have h:n=some m:=h;subst h;generalize an P y=B at k⊢;obtain⟨n',r',e'⟩:=B;cases ex with
 |nrm=>exact Wide.then (o:=n') ⟨m',k,Ms.le_refl _⟩
 |ret=>exact Wide.orR (Wide.then (o:=r') ⟨m',k,Ms.le_refl _⟩)
 |ext id=>exact Wide.allL (Wide.map (l:=e') ⟨m',k,Ms.le_refl _⟩)
theorem qW{c:Operand}{x y:Code}{ex:Ex}{m:Ms}(h:(an P x).at ex=some m):Wide ((an P (.cond c x y)).at ex) m:=by
 simp only[an];generalize an P x=A at h⊢;generalize an P y=B;obtain⟨n,r,e⟩:=A;obtain⟨n',r',e'⟩:=B;cases ex with
 |nrm=>exact Wide.orL ⟨m,h,Ms.le_refl _⟩
 |ret=>exact Wide.orL ⟨m,h,Ms.le_refl _⟩
 |ext id=>exact Wide.allL (l:=e) ⟨m,h,Ms.le_refl _⟩
theorem pj{c:Operand}{x y:Code}{ex:Ex}{m:Ms}(h:(an P y).at ex=some m):Wide ((an P (.cond c x y)).at ex) m:=by
 simp only[an];generalize an P x=A;generalize an P y=B at h⊢;obtain⟨n,r,e⟩:=A;obtain⟨n',r',e'⟩:=B;cases ex with
 |nrm=>exact Wide.orR ⟨m,h,Ms.le_refl _⟩
 |ret=>exact Wide.orR ⟨m,h,Ms.le_refl _⟩
 |ext id=>exact Wide.allR (r:=e') ⟨m,h,Ms.le_refl _⟩
theorem qi{id:Nat}{x:Code}{m:Ms}(h:(an P x).at (.ext id)=some m):Wide ((an P (.block id x)).at .nrm) m:=by
 simp only[an];generalize an P x=A at h⊢;obtain⟨n,r,e⟩:=A;exact Wide.orR ⟨m,h,Ms.le_refl _⟩
theorem ji{id:Nat}{x:Code}{ex:Ex}{m:Ms}(h:(an P x).at ex=some m)(hne:ex≠.ext id):Wide ((an P (.block id x)).at ex) m:=by
 simp only[an];generalize an P x=A at h⊢;obtain⟨n,r,e⟩:=A;cases ex with
 |nrm=>exact Wide.orL ⟨m,h,Ms.le_refl _⟩
 |ret=>exact⟨m,h,Ms.le_refl _⟩
 |ext j=>
  refine⟨m,?_,Ms.le_refl _⟩;show Bd (OQ e id) j=some m;rw[gZ,if_neg (fun hj=>hne (by rw[hj]))];exact h
theorem xo{x:Code}{ex:Ex}{m m':Ms}(hne:ex≠.nrm)(h:(an P x).at .nrm=some m)(k:(an P x).at ex=some m'):Wide ((an P (.loop x)).at ex) (m.or m'):=by
 simp only[an];generalize an P x=A at h k⊢;obtain⟨n,r,e⟩:=A;have h:n=some m:=h;subst h;cases ex with
 |nrm=>exact(hne rfl).elim
 |ret=>exact Wide.then (o:=r) ⟨m',k,Ms.le_refl _⟩
 |ext id=>exact Wide.map (l:=e) ⟨m',k,Ms.le_refl _⟩
theorem Arr.wide{A:An}{k:Ex→St0 E N→Option (List PV)}{r:List PV}{Q:Exit→Act→World→Prop}(hQ:Arr P n0 nt A β σ s a w k r Q){ex:Ex}{m:Ms}(hm:Wide (A.at ex) m)(hk:k ex s'=some r)
    (hp:Post P n0 nt s.st (fun n=>m.t.testBit n=true) β σ s a w β' σ' s' a' w') (wf':WF s') (hle:s.st≤s'.st):Q (jy ex) a' w':=by
  obtain⟨m2,h1,h2⟩:=hm;exact hQ ex s' β' σ' a' w' hk m2 h1 (hp.wide (fun n=>(h2 n).1)) wf' hle
theorem Arr.leave{A B:An}{lv:Lv}{ws:List (Way (std E N))}(hs:Sim P n0 nt β σ s a w)(wf:WF s)(hws:Yu cfg s A lv=.ok ws){k:Ex→St0 E N→Option (List PV)}{c0 r:List PV}{Q:Exit→Act→World→Prop}
    (hd:Nl (O:=std E N) c0 k (Nat.blt 1 ws.length) 0 ws=some r) (hQ:Arr P n0 nt A β σ s a w k r Q) (hAB:∀ex m,B.at ex=some m→Wide (A.at ex) m) :
    Arr P n0 nt B β σ (cleaned s) a w (fun e s'=>L2 (O:=std E N) (Nat.blt 1 ws.length) e s' 0 ws) c0 Q:=by
  intro ex s' β' σ' a' w' hk m hm hp wf' hle;obtain⟨m1,q1,q2⟩:=Px.leave (β':=β') (σ':=σ') (a':=a') (w':=w') hs wf hws hk hd;obtain⟨m2,q3,q4⟩:=hAB ex m hm;rw[q1]at q3;cases q3;obtain⟨S,σ2,g1,g2,g3,g4⟩:=q2 (hp.wide (fun n=>(q4 n).1)).since;exact hQ ex S β' σ2 a' w' g1 m1 q1 g2 g3 g4
theorem ABh(hs:Sim P n0 nt β σ s a w){c:Operand}{x:Bool}(h:yu (O:=std E N) s c=some x):a.eval c=.bool x:=by
 unfold yu at h
 split at h
 ·rename_i n
  split at h
  ·rename_i b hb;cases h
   rcases hs.T n _ hb with⟨_,h1⟩|⟨h1,_⟩
   ·have h2:RelVal P n0 β σ s w (⟨false,[.bool x]⟩:Val (std E N)) (a.tmps.getD n undef):=h1;obtain⟨h3,h4⟩:=h2;have h4:(a.tmps.getD n undef).oneCell'=true:=h4;rw[Bi h4]at h3;exact h3.1
   exact(h1 (fun n b hm=>by simp at hm)).elim
  cases h
 ·rename_i b;cases h;cases b<;>rfl
 cases h
theorem aC{p:Nat→Prop}(h:∃n,p n):∃n,p n∧∀m,p m→n≤m:=by
 obtain⟨n,hn⟩:=h
 induction n using Nat.strongRecOn with
 |_ n ih=>
  by_cases hx:∃m,m<n∧p m
  ·obtain⟨m,h1,h2⟩:=hx;exact ih m h1 h2
  exact⟨n,hn,fun m hm=>Nat.le_of_not_lt (fun hlt=>hx ⟨m,hlt,hm⟩)⟩
theorem qx{c:Code}{Q:Exit→Act→World→Prop}(J:Nat→Act→World→Prop)(round:∀n a w,J n a w→c.wp P (Exit.then (fun a' w'=>∃m,m<n∧J m a' w') Q) a w){n:Nat}(h:J n a w):(Code.loop c).wp P Q a w:=by
 classical
 refine wp_loop (fun a w=>∃n,J n a w) (fun a w=>if h:∃n,J n a w then Classical.choose (aC h)else 0) ⟨n,h⟩ (fun a w hI=>?_);have hmin:=Classical.choose_spec (aC hI);refine wp_mono (round _ a w hmin.1) (fun e a' w' hq=>?_);cases e with
 |normal=>
  obtain⟨m,hlt,hm⟩:=hq;have hI':∃n,J n a' w':=⟨m,hm⟩;refine⟨hI',?_⟩;rw[dif_pos hI',dif_pos hI];exact Nat.lt_of_le_of_lt ((Classical.choose_spec (aC hI')).2 m hm) hlt
 |_=>exact hq
theorem AF6(hmix:P.follows .mixedOrders=true)(inl:Inl E N)(hInl:lg P inl)(hΓ:GamOK P E N cfg):sM P (X P cfg inl:Run E N):=by
  intro n0 nt c
  induction c with
  |skip=>
    intro _ light lv s k r β σ a w Q h hs wf hQ;exact wp_skip (hQ .nrm s β σ a w h _ rfl (Post.refl hs) wf (Nat.le_refl _))
  |exit id=>
    intro _ light lv s k r β σ a w Q h hs wf hQ;refine wp_exit (hQ (.ext id) s β σ a w h ⟨0,0⟩ ?_ (Post.refl hs) wf (Nat.le_refl _));show Bd [(id,⟨0,0⟩)] id=_;simp only[Bd,AE.2 rfl]
  |ret=>
    intro _ light lv s k r β σ a w Q h hs wf hQ;exact wp_ret (hQ .ret s β σ a w h ⟨0,0⟩ rfl (Post.refl hs) wf (Nat.le_refl _))
  |region rid ops draw=>
    intro ht light lv s k r β σ a w Q h hs wf hQ;have ht:M8 nt ops.toList=true:=ht;have h:(match ops.toList.any oo with
      |true=>(std E N).i (std E N).g ((std E N).a [])
      |false=>Le (O:=std E N) P cfg inl ops.toList draw s (fun s'=>k .nrm s'))=some r:=h
    have h:Le (O:=std E N) P cfg inl ops.toList draw s (fun s'=>k .nrm s')=some r:=by
      cases hp:ops.toList.any oo
      · rw[hp]at h;exact h
      rw[hp]at h;cases h
    have fin:∀(s':St0 E N) (β':Nat→Option Nat) (σ':Nat→Option (Nat×Nat)) (a':Act) (w':World),k .nrm s'=some r→Post P n0 nt s.st (fun n=>n∈Ar ops.toList) β σ s a w β' σ' s' a' w'→WF s'→s.st≤s'.st→Q .normal a' w':=
      fun s' β' σ' a' w' hk hp wf' hle=>hQ .nrm s' β' σ' a' w' hk _ rfl (hp.wide (fun n hn=>Uj hn)) wf' hle
    cases draw
    · exact yc inl hInl hΓ ht h hs wf fin
    exact wm hmix inl hInl hΓ ht h hs wf fin
  |seq x y ihx ihy=>
    intro ht light lv s k r β σ a w Q h hs wf hQ;simp only[DY,zzk]at ht;refine wp_seq (ihx ht.1 _ _ s _ r β σ a w _ h hs wf (fun ex s1 β1 σ1 a1 w1 hk m hm hp wf1 hle=>?_));cases ex with
    |nrm=>
      refine ihy ht.2 _ _ s1 k r β1 σ1 a1 w1 Q hk hp.sim wf1 (fun ex s2 β2 σ2 a2 w2 hk2 m2 hm2 hp2 wf2 hle2=>?_);refine hQ.wide (ABt hm hm2) hk2 ((hp.trans hp2 hle).wide (fun n hn=>?_)) wf2 (by omega);simp only[Ms.or,Nat.testBit_or,Bool.or_eq_true];exact hn
    |ret=>exact hQ.wide (vX (fun h=>by cases h) hm) hk hp wf1 hle
    |ext id=>exact hQ.wide (vX (fun h=>by cases h) hm) hk hp wf1 hle
  |cond c x y ihx ihy=>
    intro ht light lv s k r β σ a w Q h hs wf hQ;simp only[DY,zzk]at ht;simp only[X]at h
    split at h
    · cases h
    rename_i b hb;have hc:=ABh hs hb
    split at h
    · have h:(cond b (X P cfg inl x light lv s k) (X P cfg inl y light lv s k))=some r:=h;cases b
      · refine wp_cond_false hc (ihy ht.2 _ _ s k r β σ a w Q (by simpa using h) hs wf (fun ex s1 β1 σ1 a1 w1 hk m hm hp wf1 hle=>?_));exact hQ.wide (pj hm) hk hp wf1 hle
      refine wp_cond_true hc (ihx ht.1 _ _ s k r β σ a w Q (by simpa using h) hs wf (fun ex s1 β1 σ1 a1 w1 hk m hm hp wf1 hle=>?_));exact hQ.wide (qW hm) hk hp wf1 hle
    unfold scope at h
    split at h
    · cases h
    rename_i ws hws;obtain⟨c0,h1,h2⟩:=Option.bind_eq_some_iff.1 h;have h1:(cond b (X P cfg inl x true lv (cleaned s) (fun e s'=>L2 (O:=std E N) (Nat.blt 1 ws.length) e s' 0 ws)) (X P cfg inl y true lv (cleaned s) (fun e s'=>L2 (O:=std E N) (Nat.blt 1 ws.length) e s' 0 ws)))=some c0:=h1;cases b
    · exact wp_cond_false hc (ihy ht.2 _ _ (cleaned s) _ c0 β σ a w Q (by simpa using h1) hs.cleaned wf.cleaned (hQ.leave hs wf hws h2 (fun ex m hm=>pj hm)))
    exact wp_cond_true hc (ihx ht.1 _ _ (cleaned s) _ c0 β σ a w Q (by simpa using h1) hs.cleaned wf.cleaned (hQ.leave hs wf hws h2 (fun ex m hm=>qW hm)))
  |block id x ih=>
    intro ht light lv s k r β σ a w Q h hs wf hQ;have ht:DY nt x=true:=ht;have hQ':Arr P n0 nt (an P x) β σ s a w (fun e s'=>match e with
        | .ext i=>match Nat.beq i id with
          |true=>k .nrm s'
          |false=>k e s'
        |e=>k e s') r (Exit.inBlock id Q):=by
      intro ex s1 β1 σ1 a1 w1 hk m hm hp wf1 hle;cases ex with
      |nrm=>exact hQ.wide (ji hm (fun h=>by cases h)) hk hp wf1 hle
      |ret=>exact hQ.wide (ji hm (fun h=>by cases h)) hk hp wf1 hle
      |ext i=>
        show(if i=id then Q .normal a1 w1 else Q (.exit i) a1 w1);simp only at hk
        split at hk
        · rename_i hi;have:=AE.1 hi;subst this;rw[if_pos rfl];exact hQ.wide (qi hm) hk hp wf1 hle
        rename_i hi;have hne:=Bt.1 hi;rw[if_neg hne];exact hQ.wide (ji hm (fun h=>hne (by cases h;rfl))) hk hp wf1 hle
    simp only[X]at h;refine wp_block ?_
    split at h
    · exact ih ht _ _ s _ r β σ a w _ h hs wf hQ'
    unfold scope at h
    split at h
    · cases h
    rename_i ws hws;obtain⟨c0,h1,h2⟩:=Option.bind_eq_some_iff.1 h;exact ih ht _ _ (cleaned s) _ c0 β σ a w _ h1 hs.cleaned wf.cleaned (hQ'.leave hs wf hws h2 (fun ex m hm=>⟨m,hm,Ms.le_refl _⟩))
  |loop x ih=>
    intro ht light lv s k r β σ a w Q h hs wf hQ;have ht:DY nt x=true:=ht;simp only[X]at h
    split at h
    · cases h
    rename_i m hm
    split at h
    case h_2=>cases h
    case h_3=>cases h
    rename_i head ws hhead hws
    split at h
    · cases h
    rename_i ls0 henc0;obtain⟨c0,h1,h2⟩:=Option.bind_eq_some_iff.1 h;obtain⟨g1,g2,g3,g4,g5,g6⟩:=JG hhead;generalize hF:(fun(self:List AW→Option (List PV)) (c:List PV)=>X P cfg inl x true { lv with nrm:=We x ||| lv.all } (cleaned (head.dec false c)) (yD (O:=std E N) head ws (Nat.blt 1 ws.length) self))=F at h1;have h1:CP F N (ls0.map Leaf.pv)=some c0:=h1
    let J:Nat→Act→World→Prop:=fun n a1 w1=>∃(c:List PV) (β1:Nat→Option Nat) (σ1:Nat→Option (Nat×Nat)),CP F n c=some c0∧Sim P n0 nt β1 σ1 (head.dec false c) a1 w1∧Ext P n0 (fun n=>s.st≤n) β σ s w β1 σ1 (head.dec false c) w1∧WF (head.dec false c) ∧
      s.st≤(head.dec false c).st∧(∀n e,(head.dec false c).getB n=some e→head.base.getB n=some e∨∃c,Slot.b n c∈head.slots)∧(∀n h,n<s.st→(head.dec false c).getH n=some h→head.base.getH n=some h∨n∈head.hs.map (·.1))∧a1.defers=a.defers∧∀n,¬m.t.testBit n=true→a1.tmps.getD n undef=a.tmps.getD n undef
    have since0:Since P n0 nt m β σ s a w β σ s a w:=⟨hs,Ext.refl _ _ _ _ _ _ _,fun _ _=>rfl,rfl,fun n e e' q1 _ q2 _=>by rw[q1]at q2;cases q2;rfl,fun n e e' q1 _ q2 _=>by rw[q1]at q2;cases q2;exact⟨rfl,rfl,rfl,rfl⟩⟩;have toHead:∀{n:Nat} {β1:Nat→Option Nat} {σ1:Nat→Option (Nat×Nat)} {s1:St0 E N} {a1:Act} {w1:World} {ls:List AW},Since P n0 nt m β σ s a w β1 σ1 s1 a1 w1→(∀n e,AN head.base.bx n=some e→∃e',s1.getB n=some e'∧e'.cs=e.cs)→(∀n e,AN head.base.hp n=some e→∃e',s1.getH n=some e'∧e'.e=e.e∧e'.l=e.l∧e'.nw=e.nw∧e'.frozen=e.frozen)→head.encL s1=.ok ls →
        CP F n (ls.map Leaf.pv)=some c0→J n a1 w1:=fun{n β1 σ1 s1 a1 w1 ls} hsi q1 q2 q3 q4=>by
      obtain⟨σ2,hj⟩:=jf hs wf hhead hsi q1 q2 q3 (cv:=ls.map Leaf.pv) (j:=0) (R5 (pre:=[]));have hp:=hj.post hhead hsi;exact⟨ls.map Leaf.pv,β1,σ2,q4,hj.sim,hp.ext,hj.wf,hj.st,hj.oldB,fun n h hn hh=>(eY (hj.oldH n h hn hh)).elim (fun q=>.inr (mt q).1) .inl,hsi.defers,hsi.tmps⟩
    have hkeepB:∀(n:Nat) (e:BEnt (std E N)),AN (O8 s (DV s m)) n=some e→AN head.base.bx n=some e:=fun n e he=>by rw[g3];exact he
    have fromHead:∀{m2:Ms} {c:List PV} {β1 β2:Nat→Option Nat} {σ1 σ2:Nat→Option (Nat×Nat)} {a1 a2:Act} {w1 w2:World} {s2:St0 E N},m.le m2→Ext P n0 (fun n=>s.st≤n) β σ s w β1 σ1 (head.dec false c) w1→s.st≤(head.dec false c).st →
        (∀n e,(head.dec false c).getB n=some e→head.base.getB n=some e∨∃c,Slot.b n c∈head.slots)→(∀n h,n<s.st→(head.dec false c).getH n=some h→head.base.getH n=some h∨n∈head.hs.map (·.1))→a1.defers=a.defers→(∀n,¬m.t.testBit n=true→a1.tmps.getD n undef=a.tmps.getD n undef) →
        Post P n0 nt (head.dec false c).st (fun n=>m2.t.testBit n=true) β1 σ1 (cleaned (head.dec false c)) a1 w1 β2 σ2 s2 a2 w2→Since P n0 nt m2 β σ s a w β2 σ2 s2 a2 w2:=fun{m2 c β1 β2 σ1 σ2 a1 a2 w1 w2 s2} hle hx hst hoB hoH hd ht hp=>by
      refine⟨hp.sim,((hx.trans (Hz.ext P n0 (fun _=>False) β1 σ1 w1)).trans hp.ext).weaken (fun n hn=>?_),fun n hn=>(hp.tmps n hn).trans (ht n (fun h=>hn ((hle n).1 h))),hp.defers.trans hd,fun n e e' q1 q2 q3 q4=>?_,fun n e e' q1 q2 q3 q4=>?_⟩
      · rcases hn with(hn|hn)|hn
        · exact hn
        · exact hn.elim
        exact Nat.le_trans hst hn
      · have h5:=hp.cleanB n e' q3 q4;rw[dG]at h5;obtain⟨e1,h6,h7⟩:=zzp.1 h5
        rcases hoB n e1 h6 with h8|⟨c',h8⟩
        · have h8':AN head.base.bx n=some e1:=h8;rw[g3]at h8';have:=(Li.1 h8').1;rw[q1]at this;cases this;rw[←h7]
        exact(q2 (sJ hle (g6 n c' h8).1)).elim
      have h5:=hp.cleanH n e' q3 q4;rw[Wi]at h5;obtain⟨e1,h6,h7⟩:=zzp.1 h5;have hn:n<s.st:=Nat.lt_of_not_le (fun hle=>(wf.fresh n hle).1.2 n e q1 rfl)
      rcases hoH n e1 hn h6 with h8|h8
      · have h8':AN head.base.hp n=some e1:=h8;rw[g4]at h8';have:=(LJ.1 h8').1;rw[q1]at this;cases this;rw[←h7];exact⟨rfl,rfl,rfl,rfl⟩
      rw[sV hhead]at h8;exact(q2 (zX hle h8)).elim
    refine qx J (fun n a1 w1 hJ=>?_) (n:=N) (a:=a) (w:=w) ?_
    · obtain⟨c,β1,σ1,hit,hs1,hx1,wf1,hst1,hoB1,hoH1,hd1,ht1⟩:=hJ;cases n with
      |zero=>cases hit
      |succ n=>
        have hit:F (fun ls=>CP F n (ls.map Leaf.pv)) c=some c0:=hit;rw[←hF]at hit;refine ih ht _ _ (cleaned (head.dec false c)) _ c0 β1 σ1 a1 w1 _ hit hs1.cleaned wf1.cleaned (fun ex s2 β2 σ2 a2 w2 hk m2 hm2 hp wf2 hle=>?_);cases ex with
        |nrm=>
          have:m2=m:=by
            have h3:(an P x).nrm=some m2:=hm2;rw[hm]at h3;cases h3;rfl
          subst this;simp only[yD]at hk
          split at hk
          · rename_i q1 q2
            split at hk
            · rename_i ls q3;have hsi:=fromHead (Ms.le_refl _) hx1 hst1 hoB1 hoH1 hd1 ht1 hp;exact⟨n,Nat.lt_succ_self n,toHead hsi (hsi.kept hhead q1 q2).1 (hsi.kept hhead q1 q2).2 q3 (by rw[←hF];exact hk)⟩
            cases hk
          cases hk
        |ret=>
          obtain⟨m3,q1,q2⟩:=xo (P:=P) (x:=x) (ex:=.ret) (fun h=>by cases h) hm hm2;have hle1:m.le m3:=Ms.le_trans (Ms.le_or_left _ _) q2;have hle2:m2.le m3:=Ms.le_trans (Ms.le_or_right _ _) q2;have hsi:=fromHead hle1 hx1 hst1 hoB1 hoH1 hd1 ht1 (hp.wide (fun n=>(hle2 n).1));obtain⟨m4,r1,r2⟩:=Px.leave (β':=β2) (σ':=σ2) (a':=a2) (w':=w2) hs wf hws hk h2;rw[q1]at r1;cases r1;obtain⟨S,σ3,t1,t2,t3,t4⟩:=r2 hsi;exact hQ .ret S β2 σ3 a2 w2 t1 m3 q1 t2 t3 t4
        |ext id=>
          obtain⟨m3,q1,q2⟩:=xo (P:=P) (x:=x) (ex:=.ext id) (fun h=>by cases h) hm hm2;have hle1:m.le m3:=Ms.le_trans (Ms.le_or_left _ _) q2;have hle2:m2.le m3:=Ms.le_trans (Ms.le_or_right _ _) q2;have hsi:=fromHead hle1 hx1 hst1 hoB1 hoH1 hd1 ht1 (hp.wide (fun n=>(hle2 n).1));obtain⟨m4,r1,r2⟩:=Px.leave (β':=β2) (σ':=σ2) (a':=a2) (w':=w2) hs wf hws hk h2;rw[q1]at r1;cases r1;obtain⟨S,σ3,t1,t2,t3,t4⟩:=r2 hsi;exact hQ (.ext id) S β2 σ3 a2 w2 t1 m3 q1 t2 t3 t4
    exact toHead since0 (fun n e he=>⟨e,by rw[g3]at he;exact(Li.1 he).1,rfl⟩) (fun n e he=>⟨e,by rw[g4]at he;exact(LJ.1 he).1,rfl,rfl,rfl,rfl⟩) henc0 h1
  |_=>
    intro _ light lv s k r β σ a w Q h hs wf hQ;cases h
end
theorem gt{n m:Nat}(h:n≤m):∀{l:List Oper},M8 n l=true→M8 m l=true
 | [],_=>rfl
 |o::l,hl=>by
  simp only[M8,zzk]at hl⊢;refine⟨?_,gt h hl.2⟩;cases hd:o.dst with
  |none=>rfl
  |some d=>
   rw[hd]at hl;have:=A5.1 hl.1;exact A5.2 (by omega)
theorem Rs{n m:Nat}(h:n≤m):∀{c:Code},DY n c=true→DY m c=true:=by
 intro c
 induction c with
 |region id ops draw=>exact gt h
 |seq x y ihx ihy=>intro hc;simp only[DY,zzk]at hc⊢;exact⟨ihx hc.1,ihy hc.2⟩
 |cond c x y ihx ihy=>intro hc;simp only[DY,zzk]at hc⊢;exact⟨ihx hc.1,ihy hc.2⟩
 |block id x ih=>exact ih
 |loop x ih=>exact ih
 |_=>exact fun _=>rfl
section
variable {E:Env} {N:Nat} {P:Program} {cfg:Cfg} {n0 n0':Nz} {nt:Nat} {β β':Nat→Option Nat} {σ σ':Nat→Option (Nat×Nat)} {s s' s2:St0 E N} {a a':Act} {w w':World}
def fX(tmps:Array Value):ResultVar→Sem Value
 | .tmp t=>pure (tmps.getD t undef)
 | .cell a t=>do loadVar t (←asAddr (tmps.getD a undef))
theorem vh(hs:Sim P n0 nt β σ s a w){n:Nat}{v:AV (std E N)}(h:s.getT n=some ⟨[],v⟩):RelAV P n0 β σ s w v (a.tmps.getD n undef):=by
 rcases hs.T n _ h with⟨_,h1⟩|⟨h1,_⟩
 ·exact h1
 exact(h1 (fun n b hm=>by simp at hm)).elim
theorem AAp(hs:Sim P n0 nt β σ s a w){rv:ResultVar}{v:Val (std E N)}(h:ta P s rv=some v):(∃z,(fX a.tmps rv).run P w=.ok z w∧RelVal P n0 β σ s w v z)∧∀n,(Mu s n∧∀k tv,s.getT k=some tv→n∉tv.v.names)→n∉AJ v.cs:=by
 unfold ta at h
 split at h
 ·rename_i t
  split at h
  ·rename_i y hy;cases h;exact⟨⟨_,rfl,vh hs hy⟩,fun n hf=>hf.2 t _ hy⟩
  cases h
 rename_i t T
 split at h
 ·rename_i b off hb
  split at h
  ·rename_i e he
   split at h
   ·rename_i cs hcs
    split at h
    ·rename_i hag;cases h;have h1:RelVal P n0 β σ s w (⟨false,[.ptr b off]⟩:Val (std E N)) (a.tmps.getD t undef):=vh hs hb;obtain⟨h2,h3⟩:=h1;have h3:(a.tmps.getD t undef).oneCell'=true:=h3;rw[Bi h3]at h2;have hp:SG β s b off (a.tmps.getD t undef):=h2.1;obtain⟨blk,cells,el,hv,hβ,hheap,hrel⟩:=dQ hs.M he hp;obtain⟨e1,e2⟩:=EF hcs;have hrr:=RelCs.take (P.cellsOf T) (RelCs.drop off hrel);rw[←e1]at hrr;obtain⟨x,hx,hrx⟩:=Ti hrr hag ((RelCs.length hrr).symm.trans e2) (fun j x hj=>RK hheap off _ j x hj);refine⟨⟨x,?_,hrx⟩,fun n hf hm=>(hf.1.1 b e he).2 (FI hcs hm)⟩;simp only[fX,hv,Sem.run_bind];simp[asAddr,hx]
    cases h
   cases h
  cases h
 cases h
theorem Zb(hs:Sim P n0 nt β σ s a w):∀{rv:List ResultVar} {vs:List (Val (std E N))},OS P s rv=some vs→(∃zs,(rv.mapM (fX a.tmps)).run P w=.ok zs w∧RelVals P n0 β σ s w vs zs)∧∀n,(Mu s n∧∀k tv,s.getT k=some tv→n∉tv.v.names)→n∉B7 vs
 | [],vs,h=>by
  simp only[OS]at h;cases h;exact⟨⟨[],by simp[List.mapM_nil],trivial⟩,fun n _=>by simp[B7]⟩
 |r::rv,vs,h=>by
  simp only[OS]at h
  split at h
  ·rename_i v l hv hl;cases h;obtain⟨⟨z,h1,h2⟩,h3⟩:=AAp hs hv;obtain⟨⟨zs,h4,h5⟩,h6⟩:=Zb hs hl;refine⟨⟨z::zs,?_,h2,h5⟩,fun n hf hm=>?_⟩
   ·simp[List.mapM_cons,Sem.run_bind,h1,h4]
   simp only[B7,List.mem_append]at hm;exact hm.elim (h3 n hf) (h6 n hf)
  cases h
def mc:List Value→Value
 | [x]=>x
 |zs=>.tuple zs.toArray
theorem aR(hs:Sim P n0 nt β σ s a w){fn:Func}{vs:List (Val (std E N))}(h:OS P s fn.results.toList=some vs):∃z zs,(results fn a.tmps).run P w=.ok z w∧RelVals P n0 β σ s w vs zs∧z=mc zs:=by
 obtain⟨⟨zs,h1,h2⟩,_⟩:=Zb hs h;have:(results fn a.tmps).run P w=.ok (if h:zs.toArray.size=1 then zs.toArray[0]else .tuple zs.toArray) w:=by
  have e:results fn a.tmps=(do let vs ←fn.results.mapM (fX a.tmps);pure (if h:vs.size=1 then vs[0]else .tuple vs)):=by
   unfold results;congr 1
  rw[e,Array.mapM_eq_mapM_toList,map_eq_pure_bind];simp only[Sem.run_bind,h1,Result.andThen_ok,Sem.run_pure]
 refine⟨_,zs,this,h2,?_⟩
 match zs with
 | []=>simp[mc]
 | [x]=>simp[mc]
 |x::y::r=>simp[mc]
theorem iV{vs:List (Val (std E N))}{zs:List Value}{z:Value}(h:RelVals P n0 β σ s w vs zs)(hz:z=mc zs):RelAV P n0 β σ s w (LY vs) z:=by
 subst hz
 match vs,zs,h with
 | [],[],h=>exact⟨#[],rfl,trivial⟩
 | [v],[x],h=>exact h.1
 |v::v2::vs,x::y::zs,h=>exact⟨_,rfl,h⟩
 | [_],x::y::zs,h=>exact h.2.elim
 |_::_::_,[_],h=>exact h.2.elim
theorem gz{vs:List (Val (std E N))}{n:Nat}(h:n∉B7 vs):n∉(LY vs).names:=by
 match vs,h with
 | [],h=>exact h
 | [v],h=>intro hm;exact h (by simp only[B7,List.append_nil];exact hm)
 |v::v2::vs,h=>exact h
theorem Re:∀{args:List (AV (std E N))} {i:Nat} {t:TM (TV (std E N))} {n:Nat} {tv:TV (std E N)},Dh (CT i args t) n=some tv→Dh t n=some tv∨(i≤n∧∃v,args[n-i]?=some v∧tv=⟨[],v⟩)
 | [],i,t,n,tv,h=>.inl h
 |v::args,i,t,n,tv,h=>by
  simp only[CT]at h
  rcases Re h with h|⟨h1,u,h2,h3⟩
  ·rw[Es]at h
   split at h
   ·rename_i hn;cases h;exact .inr ⟨by omega,v,by rw[hn.1];simp,rfl⟩
   exact .inl h
  refine .inr ⟨by omega,u,?_,h3⟩;rw[show n-i=(n-(i+1))+1 by omega];simpa using h2
theorem RelArgs.len:∀{xs:List (AV (std E N))} {vs:List Value},RelArgs P n0 β σ s w xs vs→xs.length=vs.length
 | [],[],_=>rfl
 |_::_,_::_,h=>by simp[RelArgs.len h.2]
 | [],_::_,h=>h.elim
 |_::_,[],h=>h.elim
theorem RelArgs.get:∀{xs:List (AV (std E N))} {vs:List Value},RelArgs P n0 β σ s w xs vs→∀{i:Nat} {x:AV (std E N)},xs[i]?=some x→∃v,vs[i]?=some v∧RelAV P n0 β σ s w x v
 | [],[],_,i,x,h=>by simp at h
 |y::xs,v::vs,h,i,x,hx=>by
  cases i with
  |zero=>simp at hx;subst hx;exact⟨v,rfl,h.1⟩
  |succ i=>obtain⟨u,h1,h2⟩:=RelArgs.get h.2 (i:=i) (by simpa using hx);exact⟨u,by simpa using h1,h2⟩
 | [],_::_,h,_,_,_=>h.elim
 |_::_,[],h,_,_,_=>h.elim
def Gc(nt:Nat)(vals:List Value):Act:={ tmps:=vals.toArray++Array.replicate (nt-vals.toArray.size) undef,defers:=[] }
theorem dL{nt:Nat}{vals:List Value}:nt≤(Gc nt vals).tmps.size:=by
 simp[Gc];omega
theorem ACE(hn0:n0.n≤w.heap.size)(m:Mem P n0 β σ s w)(hkp:Kept P n0 β σ s w){args:List (AV (std E N))}{vals:List Value}(hr:RelArgs P n0 β σ s w args vals){nt:Nat} :
    Sim P n0 (Gc nt vals).tmps.size β σ { s with tm:=CT 0 args .e } (Gc nt vals) w:=by
  have sub:Sub s ({ s with tm:=CT 0 args .e }:St0 E N):=Sub.of_same (fun _=>rfl) (fun _=>rfl);refine⟨hn0,rfl,fun n tv hn=>?_,sub.mem m,hkp.ext (sub.ext P n0 (fun _=>False) β σ w)⟩;have hn:Dh (CT 0 args .e) n=some tv:=hn
  rcases Re hn with h|⟨_,v,h1,h2⟩
  · rw[YP]at h;cases h
  subst h2;rw[Nat.sub_zero]at h1;obtain⟨z,h3,h4⟩:=hr.get h1;refine .inl ⟨fun n b hm=>by simp at hm,?_⟩;have:(Gc nt vals).tmps.getD n undef=z:=by
    obtain⟨hlt,hz⟩:=List.getElem?_eq_some_iff.1 h3;simp only[Gc,Array.getD_eq_getD_getElem?];rw[Array.getElem?_append_left (by simpa using hlt)];simp[h3]
  rw[this];exact(sub.ext P n0 (fun _=>False) β σ w).relAV (fun _ _ h=>h) h4
theorem wf0(hf:∀n,s.st≤n→Mu s n){args:List (AV (std E N))}(ha:∀x∈args,∀n∈x.names,n<s.st):WF ({ s with tm:=CT 0 args .e }:St0 E N):=by
 have get:∀(k:Nat) (tv:TV (std E N)),({ s with tm:=CT 0 args .e }:St0 E N).getT k=some tv→∃v∈args,tv=⟨[],v⟩:=fun k tv hk=>by
  have hk:Dh (CT 0 args .e) k=some tv:=hk
  rcases Re hk with h|⟨_,v,h1,h2⟩
  ·rw[YP]at h;cases h
  exact⟨v,List.mem_of_getElem? h1,h2⟩
 refine⟨fun n hn=>⟨hf n hn,fun k tv hk hm=>?_⟩,fun n tv hn=>?_⟩
 ·obtain⟨v,h1,h2⟩:=get k tv hk;subst h2;have:=ha v h1 n hm;have hn:s.st≤n:=hn;omega
 obtain⟨v,h1,h2⟩:=get n tv hn;rw[h2]
theorem RelCs.app:∀{xs ys:List (AC0 E N)} {us vs:List Value},RelCs P n0 β σ s w xs us→RelCs P n0 β σ s w ys vs→RelCs P n0 β σ s w (xs++ys) (us++vs)
 | [],_,[],_,_,h=>h
 |x::xs,_,u::us,_,h,h'=>⟨h.1,RelCs.app h.2 h'⟩
 | [],_,_::_,_,h,_=>h.elim
 |_::_,_,[],_,h,_=>h.elim
theorem RelVals.flat:∀{vs:List (Val (std E N))} {zs:List Value},RelVals P n0 β σ s w vs zs→RelCs P n0 β σ s w ((vs.map (·.cs)).flatten) ((zs.map fun z=>z.cells.toList).flatten)
 | [],[],_=>trivial
 |v::vs,z::zs,h=>RelCs.app h.1.1 (RelVals.flat h.2)
 | [],_::_,h=>h.elim
 |_::_,[],h=>h.elim
theorem dB:∀{ts:List TypeId} {cs:List (AC0 E N)},Ai P ts cs=true→cs.length=ts.length
 | [],[],_=>rfl
 |t::ts,c::cs,h=>by
  simp only[Ai]at h
  split at h
  ·simp[dB h]
  cases h
 | [],_::_,h=>by simp[Ai]at h
 |_::_,[],h=>by simp[Ai]at h
theorem U5{S:St0 E N}{β2:Nat→Option Nat}{σ2:Nat→Option (Nat×Nat)}:∀{ts:List TypeId} {vs:List (Val (std E N))} {zs:List Value} {xs:List (AC0 E N)} {vs':List (Val (std E N))},Pi P ts vs=true→RelVals P n0 β σ s w vs zs →
    RelCs P n0 β2 σ2 S w xs ((zs.map fun z=>z.cells.toList).flatten)→I9 P ts xs=some vs'→RelVals P n0 β2 σ2 S w vs' zs∧∀n∈B7 vs',n∈AJ xs
  | [],[],[],xs,vs',_,_,_,h=>by
    simp only[I9]at h;cases h;exact⟨trivial,fun n hn=>by simp[B7]at hn⟩
  |t::ts,v::vs,z::zs,xs,vs',hr,hv,hx,h=>by
    simp only[Pi,zzk]at hr;simp only[I9]at h;cases hl:AY P t with
    |none=>rw[hl]at h;cases h
    |some l=>
      rw[hl]at h hr;simp only[zzk,beq_iff_eq]at h hr
      split at h
      · cases h
      rename_i r hrest;cases h;have hlen:z.cells.toList.length=l.length:=by rw[←RelCs.length hv.1.1];exact dB hr.1.2
      have hx':RelCs P n0 β2 σ2 S w xs (z.cells.toList++(zs.map fun z=>z.cells.toList).flatten):=hx;have h1:=RelCs.take l.length hx';have h2:=RelCs.drop l.length hx';rw[←hlen,List.take_left]at h1;rw[←hlen,List.drop_left]at h2;rw[hlen]at h1 h2;obtain⟨h3,h4⟩:=U5 hr.2 hv.2 h2 hrest;refine⟨⟨⟨h1,?_⟩,h3⟩,fun n hn=>?_⟩
      · have:=hv.1.2;rw[hr.1.1]at this;exact this
      simp only[B7,List.mem_append]at hn
      rcases hn with hn|hn
      · obtain⟨c,hc,hm⟩:=Bh.1 hn;exact Bh.2 ⟨c,List.mem_of_mem_take hc,hm⟩
      obtain⟨c,hc,hm⟩:=Bh.1 (h4 n hn);exact Bh.2 ⟨c,List.mem_of_mem_drop hc,hm⟩
  | [],_::_,_,_,_,hr,_,_,_=>by simp[Pi]at hr
  |_::_,[],_,_,_,hr,_,_,_=>by simp[Pi]at hr
  |_,[],_::_,_,_,_,hv,_,_=>hv.elim
  |_,_::_,[],_,_,_,hv,_,_=>hv.elim
theorem hG:∀{sl:List Slot} (cv:List PV) (j q:Nat) (u:St0 E N) (t:TM (TV (std E N))),(∀x∈sl,∃b c,x=Slot.b b c)→B1 (O:=std E N) cv j q sl { u with tm:=t }={ B1 (O:=std E N) cv j q sl u with tm:=t }
 | [],cv,j,q,u,t,_=>rfl
 |x::sl,cv,j,q,u,t,h=>by
  obtain⟨b,c,rfl⟩:=h x zzm;rw[Zf,Zf];exact hG cv _ _ { u with bx:=P4 u.bx b (some { cs:=(AR E N cv j q c).1,dirty:=true }),hp:=(AR E N cv j q c).2++u.hp } t (fun y hy=>h y (zzn _ hy))
theorem zf{R:Run E N}(hR:sM P R):lg P (nK (O:=std E N) P cfg R):=by
  intro f args s k r h n0 β σ w vals hn0 m hkp hf ha hr;unfold nK at h;cases hfn:P.funcs[f]? with
  |none=>rw[hfn]at h;cases h
  |some fn=>
    rw[hfn]at h;simp only at h;cases hb:fn.body with
    |none=>rw[hb]at h;cases h
    |some body=>
      rw[hb]at h;simp only at h
      split at h
      · cases h
      rename_i htm;have htm':=Rs (dL (nt:=fn.ntmps) (vals:=vals)) htm;refine calls_of_wp hfn hb ?_;have hs1:=ACE (nt:=fn.ntmps) hn0 m hkp hr;have wf1:=wf0 hf ha;have subT:∀(u:St0 E N) (t:TM (TV (std E N))),Sub u ({ u with tm:=t }:St0 E N):=fun u t=>Sub.of_same (fun _=>rfl) (fun _=>rfl)
      have subs1:Sub s ({ s with tm:=CT 0 args .e }:St0 E N):=subT _ _
      split at h
      · refine hR n0 _ body htm' _ _ _ _ r β σ (Gc fn.ntmps vals) w _ h hs1 wf1 (fun ex s' β' σ' a' w' hk mx hmx hp wf' hle=>?_)
        split at hk
        case h_2=>cases hk
        rename_i vs hex hvs;obtain⟨z,zs,h1,h2,h3⟩:=aR hp.sim hvs;obtain⟨_,h4⟩:=Zb hp.sim hvs;have sub2:Sub s' ({ s' with tm:=s.tm }:St0 E N):=subT _ _;have hfin:∃(av:AV (std E N)) (s'':St0 E N) (β'':Nat→Option Nat) (σ'':Nat→Option (Nat×Nat)),k av s''=some r∧s''.tm=s.tm∧s.st≤s''.st∧Mem P n0 β'' σ'' s'' w'∧Ext P n0 (fun n=>s.st≤n) β σ s w β'' σ'' s'' w' ∧
          (∀n e,s''.getB n=some e→e.dirty=false→s.getB n=some e)∧(∀n e,s''.getH n=some e→e.dirty=false→s.getH n=some e) ∧
          RelAV P n0 β'' σ'' s'' w' av z∧∀n,s''.st≤n→Mu s'' n∧n∉av.names:=by
          refine⟨LY vs,_,β',σ',hk,rfl,hle,sub2.mem hp.sim.M,(((subs1.ext P n0 (fun _=>False) β σ w).trans hp.ext).trans (sub2.ext P n0 (fun _=>False) β' σ' w')).weaken (fun n h=>?_),hp.cleanB,hp.cleanH,(sub2.ext P n0 (fun _=>False) β' σ' w').relAV (fun _ _ h=>h) (iV h2 h3),fun n hn=>?_⟩
          · rcases h with(h|h)|h
            · exact h.elim
            · exact h
            exact h.elim
          have:=wf'.fresh n hn;exact⟨this.1,gz (h4 n this)⟩
        have hdef:a'.defers=[]:=hp.defers;cases ex with
        |nrm=>exact⟨hdef,z,h1,hfin⟩
        |ret=>exact⟨hdef,z,h1,hfin⟩
        |ext id=>simp[Ww]at hex
      split at h
      case h_2=>cases h
      rename_i sl rs hsl hrs;obtain⟨c0,h1,h2⟩:=Option.bind_eq_some_iff.1 h
      split at h2
      · cases h2
      rename_i vs' hvs';have hvs':I9 P fn.resultTypes.toList (AR E N c0 0 s.st rs).1=some vs':=hvs';generalize hm:mo (an P body)=mm at *
      unfold mo at hm;have hmm:∀ex mx,Ww ex=false→(an P body).at ex=some mx→mx.le mm:=fun ex mx he hx=>by
        cases ex with
        |nrm=>
          obtain⟨m2,q1,q2⟩:=Wide.orL (p:=(an P body).ret) ⟨mx,hx,Ms.le_refl _⟩;have q1:Zl (an P body).nrm (an P body).ret=some m2:=q1;rw[q1]at hm;subst hm;exact q2
        |ret=>
          obtain⟨m2,q1,q2⟩:=Wide.orR (o:=(an P body).nrm) ⟨mx,hx,Ms.le_refl _⟩;have q1:Zl (an P body).nrm (an P body).ret=some m2:=q1;rw[q1]at hm;subst hm;exact q2
        |ext id=>simp[Ww]at he
      refine hR n0 _ body htm' _ _ _ _ c0 β σ (Gc fn.ntmps vals) w _ h1 hs1.cleaned wf1.cleaned (fun ex s' β' σ' a' w' hk mx hmx hp wf' hle=>?_)
      split at hk
      · cases hk
      · cases hk
      rename_i vs hex hvs
      split at hk
      case h_2=>cases hk
      case h_3=>cases hk
      rename_i ls used hck hchk henc1
      split at hk
      case h_2=>cases hk
      rename_i more henc2;simp only[zzk]at hck;obtain⟨hres,hcB⟩:=hck;have hc0:c0=(ls++more).map Leaf.pv:=(Option.some.inj hk).symm;have hsi:=Post.since (s:={ s with tm:=CT 0 args .e }) (hp.wide (fun n=>(hmm ex mx hex hmx n).1));obtain⟨z,zs,r1,r2,r3⟩:=aR hp.sim hvs;obtain⟨hslm,hslb⟩:=LR hsl;have hj:=ABR (s:=s') (a:=a') (w:=w') (L:=s.st) (base:={ s with tm:=.e,bx:=O8 s (DV ({ s with tm:=CT 0 args .e }:St0 E N) mm),hp:=Rw s (fR ({ s with tm:=CT 0 args .e }:St0 E N) mm) }) hp.sim
        (fun n tv hn=>by
          have hn:Dh (.e:TM (TV (std E N))) n=some tv:=hn;rw[YP]at hn;cases hn)
        (fun n e he=>by
          have he':AN (O8 s _) n=some e:=he;obtain⟨g1,g2⟩:=Li.1 he';obtain⟨e',g3,g4⟩:=ZZ hcB he';exact⟨Nat.lt_of_not_le (fun hle=>((hf n hle).1 n e g1).1 rfl),⟨e',g3,hsi.B n e e' g1 g2 g3 g4⟩,fun k hk=>Nat.lt_of_not_le (fun hle=>((hf k hle).1 n e g1).2 hk)⟩)
        (fun n e he=>by
          have he':AN (Rw s _) n=some e:=he;obtain⟨g1,g2⟩:=LJ.1 he';obtain⟨e',g3,g4⟩:=Zr hchk he';exact⟨Nat.lt_of_not_le (fun hle=>(hf n hle).2 n e g1 rfl),e',g3,hp.keptH (s:={ s with tm:=CT 0 args .e }) g1 g3 g4⟩)
        (rs:=rs) (cs:=(vs.map (·.cs)).flatten) r2.flat (sl:=sl) (fun b c hm=>by
          obtain⟨_,e,he⟩:=hslm b c hm;exact Nat.lt_of_not_le (fun hle=>((hf b hle).1 b e he).1 rfl))
        henc1 henc2 (cv:=c0) (j:=0) (by rw[hc0];exact R5 (pre:=[]))
      obtain⟨σ2,S,hS,j1,j2,j3⟩:=hj;obtain⟨s1,s2⟩:=U5 hres r2 j1 hvs';have hSt:B1 (O:=std E N) c0 rs.length (s.st+(AR E N c0 0 s.st rs).2.length) sl { s with bx:=O8 s (DV ({ s with tm:=CT 0 args .e }:St0 E N) mm),hp:=(AR E N c0 0 s.st rs).2++Rw s (fR ({ s with tm:=CT 0 args .e }:St0 E N) mm) }={ S with tm:=s.tm }:=by
        rw[hS,Nat.zero_add];exact hG c0 rs.length (s.st+(AR E N c0 0 s.st rs).2.length) { s with tm:=.e,bx:=O8 s (DV ({ s with tm:=CT 0 args .e }:St0 E N) mm),hp:=(AR E N c0 0 s.st rs).2++Rw s (fR ({ s with tm:=CT 0 args .e }:St0 E N) mm) } s.tm hslb
      have hk2:k (LY vs') { S with tm:=s.tm }=some r:=by rw[←hSt];exact h2
      have sub2:Sub S ({ S with tm:=s.tm }:St0 E N):=subT _ _;have hfin:∃(av:AV (std E N)) (s'':St0 E N) (β'':Nat→Option Nat) (σ'':Nat→Option (Nat×Nat)),k av s''=some r∧s''.tm=s.tm∧s.st≤s''.st∧Mem P n0 β'' σ'' s'' w'∧Ext P n0 (fun n=>s.st≤n) β σ s w β'' σ'' s'' w' ∧
        (∀n e,s''.getB n=some e→e.dirty=false→s.getB n=some e)∧(∀n e,s''.getH n=some e→e.dirty=false→s.getH n=some e) ∧
        RelAV P n0 β'' σ'' s'' w' av z∧∀n,s''.st≤n→Mu s'' n∧n∉av.names:=by
        refine⟨LY vs',_,β',σ2,hk2,rfl,j3.st,sub2.mem j3.sim.M,((((subs1.ext P n0 (fun _=>False) β σ w).trans hsi.ext).trans j3.ext).trans (sub2.ext P n0 (fun _=>False) β' σ2 w')).weaken (fun n h=>?_),fun n e he hd=>?_,fun n e he hd=>?_,(sub2.ext P n0 (fun _=>False) β' σ2 w').relAV (fun _ _ h=>h) (iV s1 r3),fun n hn=>?_⟩
        · rcases h with((h|h)|h)|h
          · exact h.elim
          · exact h
          · exact h
          exact h.elim
        · have he':AN (O8 s _) n=some e:=j3.cleanB n e he hd;exact(Li.1 he').1
        · have he':AN (Rw s _) n=some e:=j3.cleanH n e he hd;exact(LJ.1 he').1
        exact⟨(j3.wf.fresh n hn).1,gz (fun hm=>by
          have hn:S.st≤n:=hn;have:=j2 n (s2 n hm);omega)⟩
      have hdef:a'.defers=[]:=hp.defers;cases ex with
      |nrm=>exact⟨hdef,z,r1,hfin⟩
      |ret=>exact⟨hdef,z,r1,hfin⟩
      |ext id=>simp[Ww]at hex
theorem rM(hmix:P.follows .mixedOrders=true)(hΓ:GamOK P E N cfg):∀n,sM P (XL (O:=std E N) P cfg n:Run E N)
 |0=>fun n0 nt c _ light lv s k r β σ a w Q h=>by cases h
 |n+1=>AF6 hmix _ (zf (rM hmix hΓ n)) hΓ
end
section
variable {E:Env} {N:Nat} {P:Program} {cfg:Cfg} {n0 n0':Nz} {nt:Nat} {β β':Nat→Option Nat} {σ σ':Nat→Option (Nat×Nat)} {s s' s2:St0 E N} {a a':Act} {w w':World}
theorem Ga{give:Bool}:∀{ts:List TypeId} {q:Nat} {ls rest:List AW} {cs:List (AC0 E N)} {h:List (Nat×HEnt (std E N))},A2 (O:=std E N) P give q ts ls=some (cs,h,rest)→Row q h∧∀n∈AJ cs,q≤n∧n<q+h.length
 | [],q,ls,rest,cs,h,he=>by
  simp only[A2]at he;cases he;exact⟨trivial,fun n hn=>by simp[AJ]at hn⟩
 |t::ts,q,[],rest,cs,h,he=>by simp only[A2]at he;cases he
 |t::ts,q,l::ls,rest,cs,h,he=>by
  simp only[A2]at he
  split at he
  ·obtain⟨⟨cs1,h1,r1⟩,e1,e2⟩:=zzp.1 he;cases e2;obtain⟨a1,a2⟩:=Ga e1;exact⟨a1,fun n hn=>a2 n (by simpa[AJ,AC.names]using hn)⟩
  ·obtain⟨⟨cs1,h1,r1⟩,e1,e2⟩:=zzp.1 he;cases e2;obtain⟨a1,a2⟩:=Ga e1;exact⟨a1,fun n hn=>a2 n (by simpa[AJ,AC.names]using hn)⟩
  ·obtain⟨⟨cs1,h1,r1⟩,e1,e2⟩:=zzp.1 he;cases e2;obtain⟨a1,a2⟩:=Ga e1;exact⟨a1,fun n hn=>a2 n (by simpa[AJ,AC.names]using hn)⟩
  ·obtain⟨⟨cs1,h1,r1⟩,e1,e2⟩:=zzp.1 he;cases e2;obtain⟨a1,a2⟩:=Ga e1;exact⟨a1,fun n hn=>a2 n (by simpa[AJ,AC.names]using hn)⟩
  ·cases give
   ·obtain⟨⟨cs1,h1,r1⟩,e1,e2⟩:=zzp.1 he;cases e2;obtain⟨a1,a2⟩:=Ga e1;exact⟨a1,fun n hn=>a2 n (by simpa[AJ,AC.names]using hn)⟩
   obtain⟨⟨cs1,h1,r1⟩,e1,e2⟩:=zzp.1 he;cases e2;obtain⟨a1,a2⟩:=Ga e1;refine⟨⟨rfl,a1⟩,fun n hn=>?_⟩;simp only[AJ,AC.names,List.cons_append,List.nil_append,List.mem_cons]at hn;simp only[List.length_cons]
   rcases hn with rfl|hn
   ·omega
   have:=a2 n hn;omega
  cases he
theorem bH:∀{ts:List TypeId} {ls r:List AW} {caps:List (Cap (std E N))},F7 (O:=std E N) ts ls=some (caps,r)→JI caps=[]
 | [],ls,r,caps,h=>by simp only[F7]at h;cases h;rfl
 |t::ts,[],r,caps,h=>by simp[F7]at h
 |t::ts,l::ls,r,caps,h=>by
  cases l<;>simp only[F7]at h<;>first|cases h|skip
  obtain⟨⟨c1,r1⟩,e1,e2⟩:=zzp.1 h;cases e2;show JI c1=[];exact bH e1
theorem YD:∀{ts:List TypeId} {gv:List Bool} {q:Nat} {fns:List Nat} {ls:List AW} {vs:List (AV (std E N))} {hs:List (Nat×HEnt (std E N))},Ba (O:=std E N) P gv q ts fns ls=some (vs,hs)→Row q hs∧∀v∈vs,∀n∈v.names,q≤n∧n<q+hs.length
 | [],gv,q,fns,ls,vs,hs,h=>by
  unfold Ba at h
  split at h
  ·cases h;exact⟨trivial,fun v hv=>by simp at hv⟩
  ·rename_i hx;cases hx
  cases h
 |t::ts,gv,q,fns,ls,vs,hs,h=>by
  unfold Ba at h
  split at h
  ·split at h
   ·split at h
    ·split at h
     ·rename_i caps _ hca;obtain⟨⟨r,h1⟩,e1,e2⟩:=zzp.1 h;cases e2;obtain⟨a1,a2⟩:=YD e1;refine⟨a1,fun v hv n hn=>?_⟩
      rcases List.mem_cons.1 hv with rfl|hv
      ·simp[AV.names,one,AJ,AC.names,bH hca]at hn
      exact a2 v hv n hn
     cases h
    cases h
   cases h
  split at h
  ·cases h
  rename_i l hl
  split at h
  ·cases h
  rename_i cs h1 ls1 hc;obtain⟨⟨r,h2⟩,e1,e2⟩:=zzp.1 h;cases e2;obtain⟨a1,a2⟩:=Ga hc;obtain⟨b1,b2⟩:=YD e1;refine⟨a1.append b1,fun v hv n hn=>?_⟩;rw[List.length_append]
  rcases List.mem_cons.1 hv with rfl|hv
  ·have:=a2 n hn;omega
  have:=b2 v hv n hn;omega
def CY(P:Program)(own:Nat→Bool)(nw:Bool)(t:TypeId):SlotC:=match AL P t with
 | .int k=>.int k
 | .bool=>.bool
 | .str=>.str
 | .sl e=>match own e with
  |true=>.own e nw
  |false=>.imm e nw
 | .opq=>.opq nw
 |_=>.bool
theorem xN(m:Mem P n0 β σ s w){own own':Nat→Bool}{nw:Bool}(ho:∀e,own' e=true→own e=true):∀{ts:List TypeId} {cs:List (AC0 E N)} {vals:List Value} {used usedE:List Nat} {ls:List AW},EV (O:=std E N) s own nw used cs=.ok ls→Ai P ts cs=true→RelCs P n0 β σ s w cs vals→(∀n∈usedE,n∈used∧∀h,s.getH n=some h→h.frozen=false) →
    ∃u,ID (O:=std E N) s [] usedE (ts.map (CY P own' nw)) cs=.ok (ls,u)
  | [],[],vals,used,usedE,ls,h,_,_,_=>by
    simp only[EV]at h;cases h;exact⟨usedE,rfl⟩
  |t::ts,c::cs,v::vals,used,usedE,ls,h,hk,hr,hu=>by
    simp only[Ai]at hk
    split at hk
    case h_2=>cases hk
    rename_i hk1;have goOk:∀{l:AW} {u:List Nat},Rg l (EV (O:=std E N) s own nw u cs)=.ok ls→∃ls2,EV (O:=std E N) s own nw u cs=.ok ls2∧ls=l::ls2:=fun{l u} h=>by
      cases hx:EV (O:=std E N) s own nw u cs with
      |ok ls2=>rw[hx]at h;simp only[Rg]at h;cases h;exact⟨ls2,rfl,rfl⟩
      |error e=>rw[hx]at h;simp only[Rg]at h;cases h
    have fin:∀{l:AW} {u uE:List Nat} {ls2:List AW},JU (O:=std E N) s [] usedE (CY P own' nw t) c=.ok (l,uE)→EV (O:=std E N) s own nw u cs=.ok ls2→ls=l::ls2→(∀n∈uE,n∈u∧∀h,s.getH n=some h→h.frozen=false)→∃u,ID (O:=std E N) s [] usedE ((t::ts).map (CY P own' nw)) (c::cs)=.ok (ls,u):=fun{l u uE ls2} h1 h2 h3 h4=>by
      obtain⟨u2,h5⟩:=xN m ho h2 hk hr.2 h4;refine⟨u2,?_⟩;simp only[List.map_cons,ID,h1,h5,h3]
    cases c with
    |int k i=>
      simp only[EV]at h;obtain⟨ls2,h2,h3⟩:=goOk h;cases hl:AL P t<;>rw[hl]at hk1<;>simp[Bj]at hk1;refine fin (l:=.int i) (uE:=usedE) ?_ h2 h3 hu;simp[CY,hl,JU,hk1]
    |bool b=>
      simp only[EV]at h;obtain⟨ls2,h2,h3⟩:=goOk h;cases hl:AL P t<;>rw[hl]at hk1<;>simp[Bj]at hk1;refine fin (l:=.bool b) (uE:=usedE) ?_ h2 h3 hu;simp[CY,hl,JU]
    |str x=>
      simp only[EV]at h;obtain⟨ls2,h2,h3⟩:=goOk h;cases hl:AL P t<;>rw[hl]at hk1<;>simp[Bj]at hk1;refine fin (l:=.str x) (uE:=usedE) ?_ h2 h3 hu;simp[CY,hl,JU]
    |nil e=>
      simp only[EV]at h;obtain⟨ls2,h2,h3⟩:=goOk h;cases hl:AL P t<;>rw[hl]at hk1<;>simp[Bj]at hk1;subst hk1;refine fin (l:=.rows []) (uE:=usedE) ?_ h2 h3 hu;simp only[CY,hl]
      split<;>simp[JU]
    |opq n i=>
      simp only[EV]at h
      split at h
      case h_2=>cases h
      rename_i hg;obtain⟨ls2,h2,h3⟩:=goOk h;cases hl:AL P t<;>rw[hl]at hk1<;>simp[Bj]at hk1;refine fin (l:=.int i) (uE:=usedE) ?_ h2 h3 hu;simp only[CY,hl,JU,hg]
    |imm e n l=>
      simp only[EV]at h
      split at h
      case h_2=>cases h
      rename_i hg;obtain⟨ls2,h2,h3⟩:=goOk h;have hl:AL P t=.sl e:=by
        cases hl:AL P t<;>rw[hl]at hk1<;>simp[Bj]at hk1;rw[hk1]
      have hown:own' e=false:=by
        cases ho':own' e
        · rfl
        have:=ho e ho';rw[this]at hg;simp at hg
      refine fin (l:=.rows l) (uE:=usedE) ?_ h2 h3 hu;have hg2:(n || !nw)=true:=by simp only[zzk]at hg;exact hg.2
      simp[CY,hl,JU,hg2,hown]
    |own e id=>
      simp only[EV]at h;cases hh:s.getH id with
      |none=>rw[hh]at h;cases h
      |some en=>
        rw[hh]at h;simp only at h
        split at h
        case h_2=>cases h
        rename_i hg;obtain⟨ls2,h2,h3⟩:=goOk h;simp only[zzk,Bool.not_eq_true']at hg;obtain⟨⟨g1,g2⟩,g3⟩:=hg;have hl:AL P t=.sl e:=by
          cases hl:AL P t<;>rw[hl]at hk1<;>simp[Bj]at hk1;rw[hk1]
        have he:=(hr.1.2 en hh).1;have hm:DG id usedE=false:=by
          cases hx:DG id usedE
          · rfl
          obtain⟨u1,u2⟩:=hu id (Dn.1 hx);have u3:=Dn.2 u1;have u4:=u2 en hh;rw[u3,u4]at g2;cases g2
        cases ho':own' e
        · refine fin (l:=.rows en.l) (uE:=match en.frozen with|true=>usedE|false=>id::usedE) ?_ h2 h3 (fun n hn=>by
            cases hz:en.frozen with
            |true=>rw[hz]at hn;exact⟨zzn _ (hu n hn).1,(hu n hn).2⟩
            |false=>
              rw[hz]at hn
              rcases List.mem_cons.1 hn with rfl|hn
              · exact⟨zzm,fun h' hh'=>by rw[hh]at hh';cases hh';exact hz⟩
              exact⟨zzn _ (hu n hn).1,(hu n hn).2⟩)
          simp[CY,hl,JU,hh,he,hm,DG,g3,ho'];cases en.frozen<;>rfl
        have hoe:=ho e ho';have g1':en.frozen=false:=by simpa[hoe]using g1
        refine fin (l:=.rows en.l) (uE:=id::usedE) ?_ h2 h3 (fun n hn=>by
          rcases List.mem_cons.1 hn with rfl|hn
          · exact⟨zzm,fun h' hh'=>by rw[hh]at hh';cases hh';exact g1'⟩
          exact⟨zzn _ (hu n hn).1,(hu n hn).2⟩)
        simp[CY,hl,JU,hh,he,g1',hm,DG,g3,ho']
    |_=>simp only[EV]at h;cases h
  | [],_::_,_,_,_,_,_,hk,_,_=>by simp[Ai]at hk
  |_::_,[],_,_,_,_,_,hk,_,_=>by simp[Ai]at hk
  |_,_::_,[],_,_,_,_,_,hr,_=>hr.elim
theorem Um(cv:List PV):∀(x y:List SlotC) (j q:Nat),AR E N cv j q (x++y)=((AR E N cv j q x).1++(AR E N cv (j+x.length) (q+(AR E N cv j q x).2.length) y).1,(AR E N cv j q x).2++(AR E N cv (j+x.length) (q+(AR E N cv j q x).2.length) y).2)
 | [],y,j,q=>rfl
 |c::x,y,j,q=>by
  have e:∀z,AR E N cv j q (c::z)=((Dc E N cv j q c).1::(AR E N cv (j+1) (q+(Dc E N cv j q c).2.length) z).1,(Dc E N cv j q c).2++(AR E N cv (j+1) (q+(Dc E N cv j q c).2.length) z).2):=fun z=>rfl
  rw[List.cons_append,e,e,Um cv x y];simp only[List.cons_append,List.length_cons,List.length_append,List.append_assoc];rw[show j+1+x.length=j+(x.length+1) by omega,Nat.add_assoc]
theorem gn{own:Nat→Bool}{nw:Bool}{cv:List PV}:∀{ts:List TypeId} {cs:List (AC0 E N)} {j q:Nat},Ai P ts cs=true→A3 (O:=std E N) P own nw cv j q ts=some (AR E N cv j q (ts.map (CY P own nw)))
 | [],[],j,q,_=>rfl
 |t::ts,c::cs,j,q,h=>by
  simp only[Ai]at h
  split at h
  case h_2=>cases h
  rename_i hk;have ih:=fun j q=>gn (own:=own) (nw:=nw) (cv:=cv) (j:=j) (q:=q) h
  cases hl:AL P t<;>rw[hl]at hk<;>(try (cases c<;>simp[Bj]at hk;done))
  ·simp only[A3,hl,ih];simp[AR,MB,VF,CY,hl]
  ·simp only[A3,hl,ih];simp[AR,MB,VF,CY,hl]
  ·simp only[A3,hl,ih];simp[AR,MB,VF,CY,hl]
  ·rename_i e;cases ho':own e
   ·simp only[A3,hl,ih,ho'];simp[AR,MB,VF,CY,hl,ho']
   simp only[A3,hl,ih,ho'];simp[AR,MB,VF,CY,hl,ho']
  simp only[A3,hl,ih];simp[AR,MB,VF,CY,hl]
 | [],_::_,_,_,h=>by simp[Ai]at h
 |_::_,[],_,_,h=>by simp[Ai]at h
theorem pW{cv:List PV}:∀{x:List SlotC} {j q:Nat},(AR E N cv j q x).1.length=x.length
 | [],j,q=>rfl
 |c::x,j,q=>by
  have e:AR E N cv j q (c::x)=((Dc E N cv j q c).1::(AR E N cv (j+1) (q+(Dc E N cv j q c).2.length) x).1,(Dc E N cv j q c).2++(AR E N cv (j+1) (q+(Dc E N cv j q c).2.length) x).2):=rfl;rw[e];simp[pW (x:=x)]
theorem iD{own:Nat→Bool}{nw:Bool}{cv:List PV}:∀{ts:List TypeId} {vs:List (Val (std E N))} {j q:Nat},Pi P ts vs=true→∃(l:List TypeId) (vs':List (Val (std E N))),Lk P ts=some l∧Ai P l ((vs.map (·.cs)).flatten)=true ∧
    Bw (O:=std E N) P own nw cv j q ts=some (vs',(AR E N cv j q (l.map (CY P own nw))).2)∧I9 P ts (AR E N cv j q (l.map (CY P own nw))).1=some vs'
  | [],[],j,q,_=>⟨[],[],rfl,rfl,rfl,rfl⟩
  |t::ts,v::vs,j,q,h=>by
    simp only[Pi,zzk]at h;cases hl:AY P t with
    |none=>rw[hl]at h;simp at h
    |some l=>
      rw[hl]at h;simp only[zzk,beq_iff_eq]at h;obtain⟨l2,vs',h1,h2,h3,h4⟩:=iD (own:=own) (nw:=nw) (cv:=cv) (j:=j+l.length) (q:=q+(AR E N cv j q (l.map (CY P own nw))).2.length) h.2;have hb:=gn (own:=own) (nw:=nw) (cv:=cv) (j:=j) (q:=q) h.1.2;refine⟨l++l2,{ agg:=Ag P t,cs:=(AR E N cv j q (l.map (CY P own nw))).1 }::vs',by simp[Lk,hl,h1],?_,?_,?_⟩
      · have:∀{a b:List TypeId} {x y:List (AC0 E N)},Ai P a x=true→Ai P b y=true→Ai P (a++b) (x++y)=true:=fun{a b x y} hx hy=>by
          induction a generalizing x with
          |nil=>cases x with
            |nil=>exact hy
            |cons _ _=>simp[Ai]at hx
          |cons t a ih=>cases x with
            |nil=>simp[Ai]at hx
            |cons c x=>
              simp only[Ai]at hx
              split at hx
              · rename_i hk;simp only[List.cons_append,Ai,hk];exact ih hx
              cases hx
        exact this h.1.2 h2
      · simp only[Bw,hl];rw[hb,List.map_append,Um,List.length_map];simp only[h3]
      simp only[I9,hl];rw[List.map_append,Um,List.length_map];have hlen:(AR E N cv j q (l.map (CY P own nw))).1.length=l.length:=by rw[pW,List.length_map]
      simp only;rw[←hlen,List.drop_left,List.take_left,hlen,h4]
  | [],_::_,_,_,h=>by simp[Pi]at h
  |_::_,[],_,_,h=>by simp[Pi]at h
theorem tV{cv:List PV}{S S2:St0 E N}(hH:∀n,S2.getH n=S.getH n)(hst:∀nw b,StB n0 β σ S nw b→StB n0 noB σ S2 nw b):∀{x:List SlotC} {j q:Nat} {vals:List Value},RelCs P n0 β σ S w (AR E N cv j q x).1 vals→RelCs P n0 noB σ S2 w (AR E N cv j q x).1 vals
 | [],j,q,[],h=>trivial
 | [],j,q,_::_,h=>h.elim
 |c::x,j,q,[],h=>h.elim
 |c::x,j,q,v::vals,h=>by
  have e:AR E N cv j q (c::x)=((Dc E N cv j q c).1::(AR E N cv (j+1) (q+(Dc E N cv j q c).2.length) x).1,(Dc E N cv j q c).2++(AR E N cv (j+1) (q+(Dc E N cv j q c).2.length) x).2):=rfl;rw[e]at h⊢;refine⟨?_,tV hH hst h.2⟩;have h1:=h.1;cases c with
  |int k=>exact h1
  |bool=>exact h1
  |str=>exact h1
  |any T=>exact h1
  |opq nw=>obtain⟨t,ht,hr⟩:=h1;exact⟨t,ht,hr.st (hst nw)⟩
  |own e nw=>
   obtain⟨h2,h3⟩:=h1;exact⟨h2,fun en hen=>h3 en (by rw[←hH];exact hen)⟩
  |imm e nw=>obtain⟨t,ht,hr⟩:=h1;exact⟨t,ht,hr.st (hst nw)⟩
theorem wz{own:Nat→Bool}{n:Nat}:∀{l:List (Nat×HEnt (std E N))} {h':HEnt (std E N)},AN (l.map fun(n,h)=>(n,{ h with frozen:=h.frozen || !own h.e })) n=some h'→∃h,AN l n=some h∧h'={ h with frozen:=h.frozen || !own h.e }
 | [],h',h=>by cases h
 |(j,a)::l,h',h=>by
  show∃h,(match Nat.beq j n with|true=>some a|false=>AN l n)=some h∧_;change(match Nat.beq j n with|true=>some { a with frozen:=a.frozen || !own a.e } | false=>AN (l.map fun(n,h)=>(n,{ h with frozen:=h.frozen || !own h.e })) n)=some h' at h;cases hb:Nat.beq j n
  ·rw[hb]at h;exact wz h
  rw[hb]at h;exact⟨a,rfl,(Option.some.inj h).symm⟩
theorem Sub.frz(s:St0 E N)(own:Nat→Bool):Sub s (y3 own s):=
  ⟨fun n e h=>⟨e,h,rfl⟩,fun n h' h=>by
      obtain⟨h0,a,b⟩:=wz h;exact⟨h0,a,by rw[b],by rw[b],by rw[b],fun hf=>by rw[b]at hf;simp only[Bool.or_eq_false_iff]at hf;exact hf.1⟩⟩
theorem AB6(hn9:n0.n=w.heap.size){own:Nat→Bool}{ci:CI}(ho:∀e,ci.ow e=true→own e=true){rs:List PV}{fn:Func}{hs:List (Nat×HEnt (std E N))}{ex:Ex}(hsim:Sim P n0 nt β' σ' s' a' w')(hdef:a'.defers=[])
    (x1:Ext P n0 (fun _=>True) noB σ (Aa hs) w β' σ' s' w') (hk:yv (O:=std E N) P own ci.nw fn ex s'=some rs):bodyPost P fn (Ret (E:=E) (N:=N) P ci n0 σ (Aa hs) w fn rs) (jy ex) a' w':=by
  unfold yv at hk
  split at hk
  · cases hk
  · cases hk
  rename_i vs' hex hvs
  split at hk
  case h_2=>cases hk
  case h_3=>cases hk
  rename_i ls' hres hout;have hrs:rs=ls'.map Leaf.pv:=(Option.some.inj hk).symm;obtain⟨z,zs,r1,r2,r3⟩:=aR hsim hvs;have hfin:Ret (E:=E) (N:=N) P ci n0 σ (Aa hs) w fn rs (.returned z) w':=by
    refine⟨x1.os,x1.tape,x1.output,x1.size,fun b hb hm=>(x1.frame b hb hm).elim id (fun h=>by have:=h.1;omega),fun q=>?_⟩;obtain⟨l,vs2,b1,b2,b3,b4⟩:=iD (own:=ci.ow) (nw:=ci.nw) (cv:=rs) (j:=0) (q:=q) hres;obtain⟨u,henc⟩:=xN hsim.M ho (usedE:=[]) hout b2 r2.flat (fun n hn=>by simp at hn);have hj:=ABR (s:=s') (a:=a') (w:=w') (L:=q) (base:={ tm:=.e,bx:=[],hp:=[],st:=q }) hsim
      (fun n tv hn=>by
        have hn:Dh (.e:TM (TV (std E N))) n=some tv:=hn;rw[YP]at hn;cases hn)
      (fun n e he=>by cases he) (fun n e he=>by cases he)
      (rs:=l.map (CY P ci.ow ci.nw)) r2.flat (sl:=[]) (fun b c hm=>by simp at hm) henc (ls2:=[]) rfl (cv:=rs) (j:=0) (by rw[hrs,List.append_nil];exact R5 (pre:=[]))
    obtain⟨σ2,S,hS,j1,j2,j3⟩:=hj;have hSH:∀n,S.getH n=AN (AR E N rs 0 q (l.map (CY P ci.ow ci.nw))).2 n:=fun n=>by
      rw[hS];show AN (_++[]) n=_;rw[List.append_nil]
    have hSB:∀n,S.getB n=none:=fun n=>by rw[hS];rfl
    generalize hD:(AR E N rs 0 q (l.map (CY P ci.ow ci.nw))).2=D at *
    have hH2:∀n,(Aa D).getH n=S.getH n:=fun n=>(hSH n).symm
    have inM:∀b,InM noB σ2 (Aa D) b→InM β' σ2 S b:=fun b hb=>by
      rcases hb with⟨n,e,h1,_⟩|⟨n,h,cap,h1,h2,h3⟩
      · cases h1
      exact .inr ⟨n,h,cap,by rw[←hH2];exact h1,h2,h3⟩
    have hst:∀nw b,StB n0 β' σ2 S nw b→StB n0 noB σ2 (Aa D) nw b:=fun nw b hb=>⟨fun hm=>hb.1 (inM _ hm),hb.2⟩
    refine⟨σ2,vs2,D,b3,⟨fun n e he=>(by cases he),fun n h hh=>?_,fun b b' e e' blk he=>(by cases he),fun n n' h h' blk cap cap' hh hh'=>?_,fun b e n h blk cap he=>(by cases he)⟩,?_,fun b hb=>?_⟩
    · rw[hH2]at hh;exact(j3.sim.M.H n h hh).view rfl rfl rfl (fun _ _ _ ho=>ho) (fun b hb _=>hst _ b hb)
    · rw[hH2]at hh hh';exact j3.sim.M.uH n n' h h' blk cap cap' hh hh'
    · have j1':=tV (S2:=Aa D) hH2 hst j1;exact iV (U5 hres r2 j1' b4).1 r3
    rcases j3.ext.mem b (inM b hb)with h|h
    · exact x1.mem b h
    exact .inr (Nat.le_trans x1.size h)
  cases ex with
  |nrm=>exact⟨hdef,z,r1,hfin⟩
  |ret=>exact⟨hdef,z,r1,hfin⟩
  |ext id=>simp[Ww]at hex
theorem ro(hn9:n0.n=w.heap.size){own:Nat→Bool}{ci:CI}(ho:∀e,ci.ow e=true→own e=true){rs:List PV}{fn:Func}{hs:List (Nat×HEnt (std E N))}{ex:Ex}(hsim:Sim P n0 nt β' σ' s' a' w')(hdef:a'.defers=[])
    (x1:Ext P n0 (fun _=>True) noB σ (Aa hs) w β' σ' s' w') (hk:my (O:=std E N) P own ci.nw fn ex s'=some rs):bodyPost P fn (Ret (E:=E) (N:=N) P ci n0 σ (Aa hs) w fn rs) (jy ex) a' w':=by
  have sb:=Sub.frz s' own;have xb:=sb.ext P n0 (fun _=>False) β' σ' w';refine AB6 hn9 ho (s':=y3 own s') ⟨hsim.n0le,hsim.size,fun n tv hn=>?_,sb.mem hsim.M,hsim.kept.ext xb⟩ hdef ((x1.trans xb).weaken fun _ _=>trivial) hk;have hn':s'.getT n=some tv:=hn
  rcases hsim.T n tv hn' with⟨h1,h2⟩|h1
  · exact .inl ⟨h1,xb.relAV (fun _ _ h=>h) h2⟩
  exact .inr h1
theorem sC(hmix:P.follows .mixedOrders=true)(hΓ:GamOK P E N cfg){own:Nat→Bool}{ci:CI}(ho:∀e,ci.ow e=true→own e=true){ls rs:List PV}
    (h:XF (O:=std E N) P cfg own ci.nw ci.gives ci.f ci.fns (ls.map PV.leaf)=some rs) {fn:Func} (hfn:P.funcs[ci.f]?=some fn) {vs:List (AV (std E N))} {hs:List (Nat×HEnt (std E N))} (hv:Ba (O:=std E N) P ci.gives 1 fn.params.toList ci.fns (ls.map PV.leaf)=some (vs,hs))
    (hn0:n0.n=w.heap.size) (m:Mem P n0 noB σ (Aa hs) w) (hkp:Kept P n0 noB σ (Aa hs) w) {args:List Value} (hr:RelArgs P n0 noB σ (Aa hs) w vs args):Calls P ci.f args.toArray w (Ret (E:=E) (N:=N) P ci n0 σ (Aa hs) w fn rs):=by
  unfold XF at h;rw[hfn]at h;simp only at h
  split at h
  · rename_i body vs' hs' hb hv';rw[hv]at hv';cases hv'
    split at h
    · cases h
    rename_i htm;obtain⟨row,hnames⟩:=YD hv
    let sx:St0 E N:={ tm:=.e,bx:=[],hp:=hs,st:=1+hs.length }
    have subx:Sub (Aa hs) sx:=Sub.of_same (fun _=>rfl) (fun _=>rfl);have mx:Mem P n0 noB σ sx w:=subx.mem m;have hrx:RelArgs P n0 noB σ sx w vs args:=(subx.ext P n0 (fun _=>False) noB σ w).relArgs hr;have hfx:∀n,sx.st≤n→Mu sx n:=fun n hn=>⟨fun k e he=>(by cases he),fun k e he=>(by
      have:=row.mem _ (row.get he);have hn:1+hs.length≤n:=hn;simp at this;omega)⟩
    refine calls_of_wp hfn hb ?_;have hs1:=ACE (s:=sx) (nt:=fn.ntmps) (Nat.le_of_eq hn0) mx (hkp.ext (subx.ext P n0 (fun _=>False) noB σ w)) hrx;have wf1:=wf0 (s:=sx) hfx (args:=vs) (fun x hx n hn=>(hnames x hx n hn).2);have htm':=Rs (dL (nt:=fn.ntmps) (vals:=args)) htm;have subs1:Sub sx ({ sx with tm:=CT 0 vs .e }:St0 E N):=Sub.of_same (fun _=>rfl) (fun _=>rfl);refine rM hmix hΓ 6 n0 _ body htm' _ _ _ _ rs noB σ (Gc fn.ntmps args) w _ h hs1 wf1 (fun ex s' β' σ' a' w' hk mm hmm hp wf' hle=>?_);have x1:Ext P n0 (fun _=>True) noB σ (Aa hs) w β' σ' s' w':=(((subx.ext P n0 (fun _=>False) noB σ w).trans (subs1.ext P n0 (fun _=>False) noB σ w)).trans hp.ext).weaken (fun _ _=>trivial);exact ro hn0 ho hp.sim hp.defers x1 hk
  · cases h
  cases h
end
section
variable {E E':Env} {N N':Nat} {P:Program} {n0:Nz} {σ:Nat→Option (Nat×Nat)} {w:World}
def Cap.re:Cap (std E N)→Cap (std E' N')
 | .box b off=>.box b off
 | .row e l=>.row e l
def AC.re:AC (std E N)→AC (std E' N')
 | .int k i=>.int k i
 | .bool b=>.bool b
 | .str s=>.str s
 | .nil e=>.nil e
 | .imm e nw l=>.imm e nw l
 | .own e id=>.own e id
 | .ptr b off=>.ptr b off
 | .aptr b off n sz i inner=>.aptr b off n sz i inner
 | .eptr id i off=>.eptr id i off
 | .iptr e nw l i off=>.iptr e nw l i off
 | .fn f caps=>.fn f (caps.map Cap.re)
 | .nilptr=>.nilptr
 | .tail e id i=>.tail e id i
 | .mp e id=>.mp e id
 | .any T=>.any T
 | .opq nw n=>.opq nw n
 | .qlit b n=>.qlit b n
def Val.re(v:Val (std E N)):Val (std E' N'):={ agg:=v.agg,cs:=v.cs.map AC.re }
def AV.re:AV (std E N)→AV (std E' N')
 | .val v=>.val v.re
 | .tup vs=>.tup (vs.map Val.re)
def HEnt.re(h:HEnt (std E N)):HEnt (std E' N'):={ e:=h.e,frozen:=h.frozen,nw:=h.nw,l:=h.l,dirty:=h.dirty }
def reH(hs:List (Nat×HEnt (std E N))):List (Nat×HEnt (std E' N')):=hs.map fun(n,h)=>(n,h.re)
variable {hs:List (Nat×HEnt (std E N))}
theorem xM(n:Nat):(Aa (reH hs:List (Nat×HEnt (std E' N')))).getH n=((Aa hs).getH n).map HEnt.re:=Ws HEnt.re hs n
theorem E1{n:Nat}{h':HEnt (std E' N')}(h:(Aa (reH hs:List (Nat×HEnt (std E' N')))).getH n=some h'):∃h0,(Aa hs).getH n=some h0∧h'=h0.re:=by
 rw[xM]at h;obtain⟨h0,h1,h2⟩:=zzp.1 h;exact⟨h0,h1,h2.symm⟩
theorem eE{b:Nat}:InM noB σ (Aa (reH hs:List (Nat×HEnt (std E' N')))) b↔InM noB σ (Aa hs) b:=by
 constructor
 ·rintro(⟨n,e,h,_⟩|⟨n,h,cap,h1,h2,h3⟩)
  ·cases h
  obtain⟨h0,h4,rfl⟩:=E1 h1;exact .inr ⟨n,h0,cap,h4,h2,h3⟩
 rintro(⟨n,e,h,_⟩|⟨n,h,cap,h1,h2,h3⟩)
 ·cases h
 exact .inr ⟨n,h.re,cap,by rw[xM,h1];rfl,h2,h3⟩
theorem Yp{nw:Bool}{b:Blk}(h:StB n0 noB σ (Aa hs) nw b):StB n0 noB σ (Aa (reH hs:List (Nat×HEnt (std E' N')))) nw b:=⟨fun hm=>h.1 (eE.1 hm),h.2⟩
theorem RelC.re{c:AC (std E N)}{v:Value}(h:RelC P n0 noB σ (Aa hs) w c v):RelC P n0 noB σ (Aa (reH hs:List (Nat×HEnt (std E' N')))) w c.re v:=by
 cases c with
 |int k i=>exact h
 |bool b=>exact h
 |str s=>exact h
 |nil e=>exact h
 |nilptr=>exact h
 |imm e nw l=>obtain⟨t,ht,hr⟩:=h;exact⟨t,ht,hr.st (fun b hb=>Yp hb)⟩
 |own e id=>
  obtain⟨h1,h2⟩:=h;refine⟨h1,fun h' hh=>?_⟩;obtain⟨h0,h3,rfl⟩:=E1 hh;exact h2 h0 h3
 |ptr b off=>obtain⟨blk,h1,h2⟩:=h;exact⟨blk,h1,fun e he=>by cases he⟩
 |aptr b off n sz i inner=>obtain⟨h0,h1,blk,h2,h3⟩:=h;exact⟨h0,h1,blk,h2,fun e he=>by cases he⟩
 |eptr id i off=>
  obtain⟨h0,blk,o,hv,hk⟩:=h;refine⟨h0,blk,o,hv,fun h' hh=>?_⟩;obtain⟨h1,h3,rfl⟩:=E1 hh;exact hk h1 h3
 |iptr e nw l i off=>
  obtain⟨h0,h1,t,ts,blk,boff,len,cap,ht,hts,hr,hv⟩:=h;exact⟨h0,h1,t,ts,blk,boff,len,cap,ht,hts,hr.st (fun b hb=>Yp hb),hv⟩
 |fn f caps=>
  obtain⟨vs,hv,hl,hp⟩:=h;refine⟨vs,hv,by rw[List.length_map];exact hl,fun i c' hc=>?_⟩;rw[List.getElem?_map]at hc;obtain⟨c,hc2,rfl⟩:=zzp.1 hc;obtain⟨y,hy,hr⟩:=hp i c hc2;cases c with
  |box b o=>
   obtain⟨blk,h2,h3⟩:=hr;exact⟨y,hy,blk,h2,fun e he=>by cases he⟩
  |row e l=>
   obtain⟨h1,t,ts,blk,boff,len,cap,ht,hts,hr,hv⟩:=hr;exact⟨y,hy,h1,t,ts,blk,boff,len,cap,ht,hts,hr.st (fun b hb=>Yp hb),hv⟩
 |tail e id i=>
  obtain⟨h0,hv,hk⟩:=h;refine⟨h0,hv,fun h' hh=>?_⟩;obtain⟨h1,h3,rfl⟩:=E1 hh;exact hk h1 h3
 |any T=>exact h
 |opq nw n=>obtain⟨t,ht,hr⟩:=h;exact⟨t,ht,hr.st (fun b hb=>Yp hb)⟩
 |qlit b n=>obtain⟨blk,h1,blk2,h2,h3⟩:=h;exact⟨blk,h1,blk2,h2,fun e he=>by cases he⟩
 |mp e id=>
  obtain⟨hv,hk⟩:=h;refine⟨hv,fun h' hh=>?_⟩;obtain⟨h1,h3,rfl⟩:=E1 hh;exact hk h1 h3
theorem RelCs.re:∀{cs:List (AC (std E N))} {vs:List Value},RelCs P n0 noB σ (Aa hs) w cs vs→RelCs P n0 noB σ (Aa (reH hs:List (Nat×HEnt (std E' N')))) w (cs.map AC.re) vs
 | [],[],_=>trivial
 |c::cs,v::vs,h=>⟨h.1.re,RelCs.re h.2⟩
 | [],_::_,h=>h.elim
 |_::_,[],h=>h.elim
theorem RelVal.re{x:Val (std E N)}{v:Value}(h:RelVal P n0 noB σ (Aa hs) w x v):RelVal P n0 noB σ (Aa (reH hs:List (Nat×HEnt (std E' N')))) w x.re v:=⟨RelCs.re h.1,h.2⟩
theorem RelVals.re:∀{cs:List (Val (std E N))} {vs:List Value},RelVals P n0 noB σ (Aa hs) w cs vs→RelVals P n0 noB σ (Aa (reH hs:List (Nat×HEnt (std E' N')))) w (cs.map Val.re) vs
 | [],[],_=>trivial
 |c::cs,v::vs,h=>⟨h.1.re,RelVals.re h.2⟩
 | [],_::_,h=>h.elim
 |_::_,[],h=>h.elim
theorem RelAV.re{x:AV (std E N)}{v:Value}(h:RelAV P n0 noB σ (Aa hs) w x v):RelAV P n0 noB σ (Aa (reH hs:List (Nat×HEnt (std E' N')))) w x.re v:=by
 cases x with
 |val x=>exact RelVal.re (x:=x) h
 |tup xs=>obtain⟨vs,h1,h2⟩:=h;exact⟨vs,h1,h2.re⟩
theorem RelArgs.re:∀{xs:List (AV (std E N))} {vs:List Value},RelArgs P n0 noB σ (Aa hs) w xs vs→RelArgs P n0 noB σ (Aa (reH hs:List (Nat×HEnt (std E' N')))) w (xs.map AV.re) vs
 | [],[],_=>trivial
 |c::cs,v::vs,h=>⟨h.1.re,RelArgs.re h.2⟩
 | [],_::_,h=>h.elim
 |_::_,[],h=>h.elim
theorem Mem.re(m:Mem P n0 noB σ (Aa hs) w):Mem P n0 noB σ (Aa (reH hs:List (Nat×HEnt (std E' N')))) w:=by
 refine⟨fun n e he=>(by cases he),fun n h' hh=>?_,fun b b' e e' blk he=>(by cases he),fun n n' h h' blk cap cap' hh hh'=>?_,fun b e n h blk cap he=>(by cases he)⟩
 ·obtain⟨h0,h1,rfl⟩:=E1 hh
  rcases m.H n h0 h1 with⟨t,ts,h2,h3,h4,h5⟩|hM
  case inr=>exact .inr (hM.view rfl rfl rfl (fun _ _ _=>rfl) (fun _ _ _ ho=>ho) (fun hr=>hr.st (fun b hb=>Yp hb)))
  refine .inl ⟨t,ts,h2,h3,h4,?_⟩
  rcases h5 with h5|⟨blk,cap,cells,el,a1,a2,a3,a4,a5,a6,v,a7,a8⟩
  ·exact .inl h5
  exact .inr ⟨blk,cap,cells,el,a1,a2,a3,a4,a5,a6,v,a7,fun i j t' hi hj=>(a8 i j t' hi hj).st (fun b hb=>Yp hb)⟩
 obtain⟨h0,h1,rfl⟩:=E1 hh;obtain⟨h0',h1',rfl⟩:=E1 hh';exact m.uH n n' h0 h0' blk cap cap' h1 h1'
theorem lN(a b:List (Nat×HEnt (std E N))):(reH (a++b):List (Nat×HEnt (std E' N')))=reH a++reH b:=by simp[reH]
theorem mj(a:List (Nat×HEnt (std E N))):(reH a:List (Nat×HEnt (std E' N'))).length=a.length:=by simp[reH]
theorem H4{give:Bool}:∀{ts:List TypeId} {q:Nat} {ls rest:List AW} {cs:List (AC (std E N))} {h:List (Nat×HEnt (std E N))},A2 (O:=std E N) P give q ts ls=some (cs,h,rest)→A2 (O:=std E' N') P give q ts ls=some (cs.map AC.re,reH h,rest)
 | [],q,ls,rest,cs,h,he=>by
  simp only[A2]at he⊢;cases he;rfl
 |t::ts,q,[],rest,cs,h,he=>by simp only[A2]at he;cases he
 |t::ts,q,l::ls,rest,cs,h,he=>by
  simp only[A2]at he⊢;cases hl:AL P t<;>rw[hl]at he<;>cases l<;>simp only at he<;>try (cases he;done)
  ·obtain⟨⟨cs1,h1,r1⟩,e1,e2⟩:=zzp.1 he;cases e2;simp only[H4 e1];rfl
  ·obtain⟨⟨cs1,h1,r1⟩,e1,e2⟩:=zzp.1 he;cases e2;simp only[H4 e1];rfl
  ·obtain⟨⟨cs1,h1,r1⟩,e1,e2⟩:=zzp.1 he;cases e2;simp only[H4 e1];rfl
  ·cases give
   ·obtain⟨⟨cs1,h1,r1⟩,e1,e2⟩:=zzp.1 he;cases e2;simp only[H4 e1];rfl
   obtain⟨⟨cs1,h1,r1⟩,e1,e2⟩:=zzp.1 he;cases e2;simp only[H4 e1];rfl
  obtain⟨⟨cs1,h1,r1⟩,e1,e2⟩:=zzp.1 he;cases e2;simp only[H4 e1];rfl
theorem mB:∀{ts:List TypeId} {ls r:List AW} {caps:List (Cap (std E N))},F7 (O:=std E N) ts ls=some (caps,r)→F7 (O:=std E' N') ts ls=some (caps.map Cap.re,r)
 | [],ls,r,caps,h=>by simp only[F7]at h⊢;cases h;rfl
 |t::ts,[],r,caps,h=>by simp[F7]at h
 |t::ts,l::ls,r,caps,h=>by
  cases l<;>simp only[F7]at h⊢<;>first|cases h|skip
  obtain⟨⟨c1,r1⟩,e1,e2⟩:=zzp.1 h;cases e2;rw[mB e1];rfl
theorem bB:∀{ts:List TypeId} {gv:List Bool} {q:Nat} {fns:List Nat} {ls:List AW} {vs:List (AV (std E N))} {hs:List (Nat×HEnt (std E N))},Ba (O:=std E N) P gv q ts fns ls=some (vs,hs)→Ba (O:=std E' N') P gv q ts fns ls=some (vs.map AV.re,reH hs)
  | [],gv,q,fns,ls,vs,hs,h=>by
    unfold Ba at h⊢;cases fns<;>cases ls<;>simp only at h⊢<;>cases h;rfl
  |t::ts,gv,q,fns,ls,vs,hs,h=>by
    unfold Ba at h⊢;cases hl:AL P t<;>rw[hl]at h<;>simp only at h⊢
    all_goals first
      | (split at h
         · rename_i f fns';cases hct:yk P f with
           |none=>rw[hct]at h;cases h
           |some cts=>
             rw[hct]at h;simp only at h⊢
             split at h
             · rename_i caps ls1 hca;obtain⟨⟨r,h1⟩,e1,e2⟩:=zzp.1 h;cases e2;simp only[mB hca,bB e1];rfl
             cases h
         · cases h
         done)
      | (split at h
         · cases h
         rename_i l hl2
         split at h
         · cases h
         rename_i cs h1 ls1 hc;obtain⟨⟨r,h2⟩,e1,e2⟩:=zzp.1 h;cases e2;simp only[H4 hc,mj,bB e1];simp[AV.re,Val.re,lN])
theorem FN{own:Nat→Bool}{nw:Bool}{c:List PV}:∀{ts:List TypeId} {j q:Nat} {cs:List (AC (std E N))} {h:List (Nat×HEnt (std E N))},A3 (O:=std E N) P own nw c j q ts=some (cs,h)→A3 (O:=std E' N') P own nw c j q ts=some (cs.map AC.re,reH h)
 | [],j,q,cs,h,he=>by
  simp only[A3]at he⊢;cases he;rfl
 |t::ts,j,q,cs,h,he=>by
  simp only[A3]at he⊢;cases hl:AL P t<;>rw[hl]at he<;>simp only at he<;>try (cases he;done)
  ·obtain⟨⟨cs1,h1⟩,e1,e2⟩:=zzp.1 he;cases e2;simp only[FN e1];rfl
  ·obtain⟨⟨cs1,h1⟩,e1,e2⟩:=zzp.1 he;cases e2;simp only[FN e1];rfl
  ·obtain⟨⟨cs1,h1⟩,e1,e2⟩:=zzp.1 he;cases e2;simp only[FN e1];rfl
  ·rename_i e;cases ho:own e
   ·rw[ho]at he;obtain⟨⟨cs1,h1⟩,e1,e2⟩:=zzp.1 he;cases e2;simp only[FN e1,ho];rfl
   rw[ho]at he;obtain⟨⟨cs1,h1⟩,e1,e2⟩:=zzp.1 he;cases e2;simp only[FN e1,ho];rfl
  obtain⟨⟨cs1,h1⟩,e1,e2⟩:=zzp.1 he;cases e2;simp only[FN e1];rfl
theorem eG{own:Nat→Bool}{nw:Bool}{c:List PV}:∀{ts:List TypeId} {j q:Nat} {vs:List (Val (std E N))} {h:List (Nat×HEnt (std E N))},Bw (O:=std E N) P own nw c j q ts=some (vs,h)→Bw (O:=std E' N') P own nw c j q ts=some (vs.map Val.re,reH h)
 | [],j,q,vs,h,he=>by
  simp only[Bw]at he⊢;cases he;rfl
 |t::ts,j,q,vs,h,he=>by
  simp only[Bw]at he⊢
  split at he
  ·cases he
  rename_i l hl
  split at he
  ·cases he
  rename_i cs h1 hc
  split at he
  ·cases he
  rename_i vs2 h2 hv;cases he;simp only[hl,FN hc,mj,eG hv];simp[Val.re,lN]
theorem ADk(vs:List (Val (std E N))):(LY (vs.map Val.re):AV (std E' N'))=(LY vs).re:=by
 match vs with
 | []=>rfl
 | [v]=>rfl
 |v::v2::vs=>rfl
theorem Ret.re{ci:CI}{fn:Func}{rs:List PV}{e:Ending}{w':World}(h:Ret (E:=E) (N:=N) P ci n0 σ (Aa hs) w fn rs e w'):Ret (E:=E') (N:=N') P ci n0 σ (Aa (reH hs)) w fn rs e w':=by
 cases e with
 |panicked ch=>exact h.elim
 |outgrown=>exact h.elim
 |returned v=>
  obtain⟨h1,h2,h3,h4,h5,h6⟩:=h;refine⟨h1,h2,h3,h4,fun b hb hm=>h5 b hb (fun h=>hm (eE.2 h)),fun q=>?_⟩;obtain⟨σ',vs,hs',a1,a2,a3,a4⟩:=h6 q;exact⟨σ',vs.map Val.re,reH hs',eG a1,a2.re,by rw[ADk];exact a3.re,fun b hb=>(a4 b (eE.1 hb)).imp (fun h=>eE.2 h) id⟩
theorem AFX(hs:List (Nat×HEnt (std E N))):(reH (reH hs:List (Nat×HEnt (std E' N'))):List (Nat×HEnt (std E N)))=hs:=by
 simp only[reH,List.map_map]
 conv=>rhs;rw[←List.map_id hs]
 rfl
theorem zh{ci:CI}(h:∀(ls rs:List PV),E' ci.f ci.fns ls=some rs→∀fn,P.funcs[ci.f]?=some fn→∀(vs:List (AV (std E N))) (hs:List (Nat×HEnt (std E N))),Ba (O:=std E N) P ci.gives 1 fn.params.toList ci.fns (ls.map PV.leaf)=some (vs,hs) →
    ∀(n0:Nz) (σ:Nat→Option (Nat×Nat)) (w:World) (args:List Value),n0.n=w.heap.size→Mem P n0 noB σ (Aa hs) w→RelArgs P n0 noB σ (Aa hs) w vs args→(mO ci.gives=true→∀q,σ q=none)→Kept P n0 noB σ (Aa hs) w→Calls P ci.f args.toArray w (Ret (E:=E) (N:=N) P ci n0 σ (Aa hs) w fn rs)):Ko P E' N' ci:=by
  intro fn hfn ls rs he vs hs hav n0 σ w args hn0 m hr hni hkp;refine(h ls rs he fn hfn _ _ (bB hav) n0 σ w args hn0 m.re hr.re hni (fun g hg=>⟨(hkp g hg).1,fun hm=>(hkp g hg).2.1 (eE.1 hm),(hkp g hg).2.2⟩)).mono (fun e w' hret=>?_);have:=Ret.re (E':=E') (N':=N') hret;rw[AFX]at this;exact this
theorem Kx{ci:CI}(h:∀(ls rs:List PV),E' ci.f ci.fns ls=some rs→∀fn,P.funcs[ci.f]?=some fn→∀(vs:List (AV (std E N))) (hs:List (Nat×HEnt (std E N))),Ba (O:=std E N) P ci.gives 1 fn.params.toList ci.fns (ls.map PV.leaf)=some (vs,hs) →
    ∀(n0:Nz) (σ:Nat→Option (Nat×Nat)) (w:World) (args:List Value),n0.n=w.heap.size→Mem P n0 noB σ (Aa hs) w→RelArgs P n0 noB σ (Aa hs) w vs args→Kept P n0 noB σ (Aa hs) w→Calls P ci.f args.toArray w (Ret (E:=E) (N:=N) P ci n0 σ (Aa hs) w fn rs)):Ko P E' N' ci:=
  zh fun ls rs he fn hfn vs hs hav n0 σ w args hn0 m hr _ hkp=>h ls rs he fn hfn vs hs hav n0 σ w args hn0 m hr hkp
theorem ACN(hmix:P.follows .mixedOrders=true){cfg:Cfg}(hΓ:GamOK P E N cfg){ci:CI}(h:∀(ls rs:List PV),E' ci.f ci.fns ls=some rs→XF (O:=std E N) P cfg ci.ow ci.nw ci.gives ci.f ci.fns (ls.map PV.leaf)=some rs) :
    Ko P E' N' ci∧Ko P E' N' { ci with own:=false }:=
  ⟨Kx (fun ls rs he fn hfn vs hs hv n0 σ w args hn0 m hr hkp=>sC hmix hΓ (ci:=ci) (fun _=>id) (h ls rs he) hfn hv hn0 m hkp hr),
   Kx (ci:={ ci with own:=false }) (fun ls rs he fn hfn vs hs hv n0 σ w args hn0 m hr hkp=>sC hmix hΓ (own:=ci.ow) (ci:={ ci with own:=false }) (fun e he=>by cases he) (h ls rs he) hfn hv hn0 m hkp hr)⟩
end
def jz:Operand→Bool
 | .const (.slice none 0 0)=>true
 |_=>false
def Mo(T:TypeId):Code→Option (Code×Code)
 | .seq (.region _ r0 false) (.seq (.seq (.region _ r1 false) (.cond (.tmp 4) nb .skip)) tail)=>match r0.toList,r1.toList with
  | [⟨some 2,.assign (.const _),_,_,_,none⟩],[⟨some 3,.move (.tmp 0),_,_,_,none⟩,⟨some 4,.binOp .eql U (.tmp 3) z _,_,_,_,none⟩]=>match Nat.beq U T&&jz z with
   |true=>some (nb,tail)
   |false=>none
  |_,_=>none
 |_=>none
def Im{O:Alg}(e:TypeId)(l:O.L):State O:={ tm:=CT 0 [.val ⟨false,[.imm e false l]⟩] .e,bx:=[],hp:=[],st:=1 }
section
variable {E:Env} {N:Nat} {P:Program} {cfg:Cfg} {n0 n0':Nz} {nt:Nat} {β β':Nat→Option Nat} {σ σ':Nat→Option (Nat×Nat)} {s s' s2:St0 E N} {a a':Act} {w w':World}
theorem Sim.put_free(hs:Sim P n0 nt β σ s a w){d:Nat}{z:Value}(hd:s.getT d=none)(hg:∀n tv,s.getT n=some tv→tv.gs=[]):Sim P n0 nt β σ s (a.put (some d) z) w:=by
 refine⟨hs.n0le,by simp[Act.put,hs.size],fun n tv hn=>?_,hs.M,hs.kept⟩;have hne:n≠d:=fun e=>by rw[e,hd]at hn;cases hn
 rw[F3 hne];have g0:=hg n tv hn
 rcases hs.T n tv hn with⟨h1,h2⟩|⟨h1,h2⟩
 ·exact .inl ⟨by rw[g0];exact fun n b hm=>by simp at hm,h2⟩
 exact(h1 (by rw[g0];exact fun n b hm=>by simp at hm)).elim
theorem aQ{ops:Array Oper}{Q:Exit→Act→World→Prop}{i:Nat}{o:Oper}(ho:ops[i]?=some o)(hg:o.guard=none){v:Value}(hx:(execOp a.eval o).run P w=.ok (.value v) w){K:Act→World→Prop}(hK:K (a.put o.dst v) w):wpOp P ops Q i K a w:=by
 unfold wpOp;simp only[ho,Region.wanted,hg,if_true];refine .inl ?_;unfold Oper.wp;rw[hx];exact hK
theorem ABf{d:Option Tmp}{t:TypeId}{p:String}{af:Array Edge}{g:Option (Nat×Bool)}{x:Operand}{v:Value}(h:a.eval x=v):(execOp a.eval ⟨d,.move x,t,p,af,g⟩).run P w=.ok (.value v) w:=by
 subst h;rfl
theorem yY{d:Option Tmp}{t:TypeId}{p:String}{af:Array Edge}{g:Option (Nat×Bool)}{x:Operand}{v:Value}(h:a.eval x=v):(execOp a.eval ⟨d,.assign x,t,p,af,g⟩).run P w=.ok (.value v) w:=by
 subst h;rfl
theorem AAF{o:Oper}{Q:Exit→Act→World→Prop}(hg:o.guard=none){v:Value}(hx:(execOp a.eval o).run P w=.ok (.value v) w)(hK:Q .normal (a.put o.dst v) w):wpOps P #[o] Q (List.range 1) a w:=by
 show wpOps P #[o] Q [0] a w;rw[wpOps_cons];exact aQ rfl hg hx hK
theorem AAJ{o o':Oper}{Q:Exit→Act→World→Prop}(hg:o.guard=none)(hg':o'.guard=none){v v':Value}(hx:(execOp a.eval o).run P w=.ok (.value v) w)(hx':(execOp (a.put o.dst v).eval o').run P w=.ok (.value v') w)
    (hK:Q .normal ((a.put o.dst v).put o'.dst v') w):wpOps P #[o,o'] Q (List.range 2) a w:=by
  show wpOps P #[o,o'] Q [0,1] a w;rw[wpOps_cons];refine aQ rfl hg hx ?_;rw[wpOps_cons];exact aQ rfl hg' hx' hK
theorem wS(hmix:P.follows .mixedOrders=true)(hΓ:GamOK P E N cfg){own:Nat→Bool}{own' nw:Bool}{f:FuncId}(ho:∀e,CI.ow ⟨f,[],own',nw,[],[]⟩ e=true→own e=true){T e:TypeId}{fn:Func}(hfn:P.funcs[f]?=some fn)(hp:fn.params.toList=[T])(hT:P.underlying T=some (.slice e))(hq:(Nat.blt e ptB && !Eh P e)=true)
    {body nb tail:Code} (hb:fn.body=some body) (hpc:Mo T body=some (nb,tail)) (ht1:DY fn.ntmps nb=true) (ht2:DY fn.ntmps tail=true) (hna:(an P nb).nrm.isNone=true) (hnt:5≤fn.ntmps) {lv:Lv} {l:Rows}
    (h1:l=[]→XL (O:=std E N) P cfg 6 nb true lv (Im e l) (my P own nw fn)=some [.rows l]) (h2:XL (O:=std E N) P cfg 6 tail true lv (Im e l) (my P own nw fn)=some [.rows l])
    {vs:List (AV (std E N))} {hs:List (Nat×HEnt (std E N))} (hv:Ba (O:=std E N) P [] 1 fn.params.toList [] ([PV.rows l].map PV.leaf)=some (vs,hs)) (hn0:n0.n=w.heap.size) (m:Mem P n0 noB σ (Aa hs) w) (hkp:Kept P n0 noB σ (Aa hs) w) {args:List Value} (hr:RelArgs P n0 noB σ (Aa hs) w vs args) :
    Calls P f args.toArray w (Ret (E:=E) (N:=N) P ⟨f,[],own',nw,[],[]⟩ n0 σ (Aa hs) w fn [.rows l]):=by
  have hlk:AL P T=.sl e:=ABL hT hq;obtain⟨rfl,rfl⟩:vs=[.val ⟨false,[.imm e false l]⟩]∧hs=[]:=by
    rw[hp]at hv;unfold Ba at hv;simp only[hlk]at hv;cases ht:AY P T with
    |none=>rw[ht]at hv;cases hv
    |some ts=>
      rw[ht]at hv;have:ts=[T]:=by
        unfold AY at ht;simp only[Dx,B5,hT]at ht
        split at ht
        · cases ht;rfl
        cases ht
      subst this;have hag:Ag P T=false:=by simp[Ag,hT]
      simp[A2,hlk,PV.leaf,Ba,hag]at hv;exact⟨hv.1.symm,hv.2⟩
  obtain⟨v,rfl⟩:∃v,args=[v]:=by
    have:=hr.len
    match args,this with
    | [v],_=>exact⟨v,rfl⟩
  have hv0:RelVal P n0 noB σ (Aa []) w (⟨false,[.imm e false l]⟩:Val (std E N)) v:=hr.1;obtain⟨hc1,hc2⟩:=hv0;have hc2:v.oneCell'=true:=hc2;rw[Bi hc2]at hc1;obtain⟨t0,ht0,hrep⟩:RelC P n0 noB σ (Aa ([]:List (Nat×HEnt (std E N)))) w (.imm e false l) v:=hc1.1;obtain⟨ad,len,cap,hvs,hnil⟩:∃ad len cap,v=.slice ad len cap∧(ad=none→l=[]):=by
    have hlp:e<ptB:=by rw[zzk]at hq;exact A5.1 hq.1
    cases hrep with
    |ptN h8 h9=>exact(ACq ht0 h8 hlp h9).elim
    |pt h8 _ _=>exact(AGA ht0 h8 hlp).elim
    |sl v h hts hl hrl hcap hm hv=>
      refine⟨_,_,_,rfl,fun ha=>?_⟩
      rcases hm with hm|⟨b,off,hb,_⟩
      · exact List.length_eq_zero_iff.1 (by rw[hl];exact hm)
      rw[hb]at ha;cases ha
  subst hvs;unfold Mo at hpc
  split at hpc
  case h_2=>cases hpc
  rename_i i0 r0 i1 r1 nb' tail'
  split at hpc
  case h_2=>cases hpc
  rename_i c0 ty0 pos0 af0 ty1 pos1 af1 U z uT ty2 pos2 af2 hr0 hr1
  split at hpc
  case h_2=>cases hpc
  rename_i hUz;cases hpc;simp only[zzk]at hUz;have hU:=AE.1 hUz.1;subst hU;obtain rfl:z=.const (.slice none 0 0):=by
    have:=hUz.2;unfold jz at this
    split at this
    · rfl
    cases this
  have e0:r0=#[⟨some 2,.assign (.const c0),ty0,pos0,af0,none⟩]:=by apply Array.ext';exact hr0
  have e1:r1=#[⟨some 3,.move (.tmp 0),ty1,pos1,af1,none⟩,⟨some 4,.binOp .eql U (.tmp 3) (.const (.slice none 0 0)) uT,ty2,pos2,af2,none⟩]:=by apply Array.ext';exact hr1
  subst e0;subst e1
  let sx:St0 E N:={ tm:=.e,bx:=[],hp:=[],st:=1 }
  have subx:Sub (Aa ([]:List (Nat×HEnt (std E N)))) sx:=Sub.of_same (fun _=>rfl) (fun _=>rfl);have mx:Mem P n0 noB σ sx w:=subx.mem m;have hrx:RelArgs P n0 noB σ sx w [.val ⟨false,[.imm e false l]⟩] [.slice ad len cap]:=(subx.ext P n0 (fun _=>False) noB σ w).relArgs hr;have hfx:∀n,sx.st≤n→Mu sx n:=fun n hn=>⟨fun k e he=>(by cases he),fun k e he=>(by cases he)⟩
  have hs1:=ACE (s:=sx) (nt:=fn.ntmps) (Nat.le_of_eq hn0) mx (hkp.ext (subx.ext P n0 (fun _=>False) noB σ w)) hrx;have wf1:WF (Im e l:St0 E N):=wf0 (s:=sx) hfx (args:=[.val ⟨false,[.imm e false l]⟩]) (fun x hx n hn=>by simp at hx;subst hx;simp[AV.names,AJ,AC.names]at hn);have hs1:Sim P n0 (Gc fn.ntmps [.slice ad len cap]).tmps.size noB σ (Im e l:St0 E N) (Gc fn.ntmps [.slice ad len cap]) w:=hs1;have subs1:Sub sx (Im e l:St0 E N):=Sub.of_same (fun _=>rfl) (fun _=>rfl);have free:∀d,d≠0→(Im e l:St0 E N).getT d=none:=fun d hd=>by
    cases hx:(Im e l:St0 E N).getT d with
    |none=>rfl
    |some tv=>
      have hx:Dh (CT 0 [.val ⟨false,[.imm e false l]⟩] (.e:TM (TV (std E N)))) d=some tv:=hx
      rcases Re hx with h|⟨_,v,h1,_⟩
      · rw[YP]at h;cases h
      have:=(List.getElem?_eq_some_iff.1 h1).1;simp at this;omega
  have hs2:=((hs1.put_free (d:=2) (z:=c0) (free 2 (by omega)) wf1.gs).put_free (d:=3) (z:=.slice ad len cap) (free 3 (by omega)) wf1.gs).put_free (d:=4) (z:=.bool ad.isNone) (free 4 (by omega)) wf1.gs;have hsz:=dL (nt:=fn.ntmps) (vals:=[.slice ad len cap]);have ht1':=Rs hsz ht1;have ht2':=Rs hsz ht2;have x0:∀{β':Nat→Option Nat} {σ':Nat→Option (Nat×Nat)} {s':St0 E N} {w':World},Ext P n0 (fun n=>(Im e l:St0 E N).st≤n) noB σ (Im e l) w β' σ' s' w'→Ext P n0 (fun _=>True) noB σ (Aa ([]:List (Nat×HEnt (std E N)))) w β' σ' s' w':=fun x=>
    (((subx.ext P n0 (fun _=>False) noB σ w).trans (subs1.ext P n0 (fun _=>False) noB σ w)).trans x).weaken (fun _ _=>trivial)
  have hget0:((Gc fn.ntmps [Value.slice ad len cap]).put (some 2) c0).tmps.getD 0 undef=.slice ad len cap:=by
    rw[F3 (by omega)];simp only[Gc];rw[Array.getD_eq_getD_getElem?,Array.getElem?_append_left (by simp)];rfl
  have hget3:(((Gc fn.ntmps [Value.slice ad len cap]).put (some 2) c0).put (some 3) (.slice ad len cap)).tmps.getD 3 undef=.slice ad len cap:=by
    refine NL ?_;have:5≤(Gc fn.ntmps [Value.slice ad len cap]).tmps.size:=Nat.le_trans hnt hsz;simp[Act.put];omega
  have hget4:((((Gc fn.ntmps [Value.slice ad len cap]).put (some 2) c0).put (some 3) (.slice ad len cap)).put (some 4) (.bool ad.isNone)).tmps.getD 4 undef=.bool ad.isNone:=by
    refine NL ?_;have:5≤(Gc fn.ntmps [Value.slice ad len cap]).tmps.size:=Nat.le_trans hnt hsz;simp[Act.put];omega
  generalize hB:bodyPost P fn (Ret (E:=E) (N:=N) P ⟨f,[],own',nw,[],[]⟩ n0 σ (Aa []) w fn [.rows l])=B;generalize hA:(((Gc fn.ntmps [Value.slice ad len cap]).put (some 2) c0).put (some 3) (.slice ad len cap)).put (some 4) (.bool ad.isNone)=A at hs2 hget4;have hAd:A.defers=[]:=by rw[←hA];rfl
  have fin:(Code.cond (.tmp 4) nb Code.skip).wp P (Exit.then (tail.wp P B) B) A w:=by
    refine wp_cond_split (t:=ad.isNone) (c:=.tmp 4) (a:=A) hget4 (fun ht=>?_) (fun ht=>?_)
    · have hl:=hnil (by cases ad with|none=>rfl|some _=>simp at ht);refine rM hmix hΓ 6 n0 _ _ ht1' _ _ _ _ _ noB σ _ w _ (h1 hl) hs2 wf1 (fun ex s' β' σ' a' w' hk mm hmm hp wf' hle=>?_);have hfin:=ro hn0 (ci:=⟨f,[],own',nw,[],[]⟩) (fn:=fn) ho hp.sim (hp.defers.trans hAd) (x0 hp.ext) hk;rw[hB]at hfin;cases ex with
      |nrm=>
        have:(an P nb).nrm=some mm:=hmm;rw[this]at hna;cases hna
      |ret=>exact hfin
      |ext id=>exact hfin
    refine wp_skip ?_;refine rM hmix hΓ 6 n0 _ _ ht2' _ _ _ _ _ noB σ _ w B h2 hs2 wf1 (fun ex s' β' σ' a' w' hk mm hmm hp wf' hle=>?_);rw[←hB];exact ro hn0 (ci:=⟨f,[],own',nw,[],[]⟩) ho hp.sim (hp.defers.trans hAd) (x0 hp.ext) hk
  refine calls_of_wp hfn hb ?_;rw[hB];refine wp_seq (wp_region (AAF (o:=⟨some 2,.assign (.const c0),ty0,pos0,af0,none⟩) rfl (v:=c0) (yY (x:=.const c0) rfl) ?_));show(Code.seq (Code.seq _ _) tail).wp P B ((Gc fn.ntmps [Value.slice ad len cap]).put (some 2) c0) w;refine wp_seq (wp_seq (wp_region (AAJ (o:=⟨some 3,.move (.tmp 0),ty1,pos1,af1,none⟩) (o':=⟨some 4,.binOp .eql U (.tmp 3) (.const (.slice none 0 0)) uT,ty2,pos2,af2,none⟩) rfl rfl (v:=.slice ad len cap) (v':=.bool ad.isNone)
    (ABf (a:=(Gc fn.ntmps [Value.slice ad len cap]).put (some 2) c0) (x:=.tmp 0) hget0) (CQ (x:=do eqGuard .eql U (.tmp 3) (.const (.slice none 0 0)) ((((Gc fn.ntmps [Value.slice ad len cap]).put (some 2) c0).put (some 3) (.slice ad len cap)).eval (.tmp 3)) (.slice none 0 0);Go.binOp .eql U ((((Gc fn.ntmps [Value.slice ad len cap]).put (some 2) c0).put (some 3) (.slice ad len cap)).eval (.tmp 3)) (.slice none 0 0)) (by simp[execOp,Act.eval]) (by
    rw[show((((Gc fn.ntmps [Value.slice ad len cap]).put (some 2) c0).put (some 3) (.slice ad len cap)).eval (.tmp 3))=.slice ad len cap from hget3];exact Ak (EM _ _ _ _ _ _ rfl (by simp)) (Lib.run_eql_slice_nil (P:=P) w U e ad len cap 0 0 hT))) ?_)))
  rw[←hA]at fin;exact fin
end
end Go.Px
end
