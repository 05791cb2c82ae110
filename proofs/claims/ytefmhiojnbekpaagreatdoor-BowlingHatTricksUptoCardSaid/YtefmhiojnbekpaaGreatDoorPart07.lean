/- Part 7. -/
import Derived.Test.YtefmhiojnbekpaaGreatDoorPart06
import Derived.WalkSpells
set_option linter.unusedVariables false
set_option linter.unusedSimpArgs false
section
namespace Go.Px
section
variable {E:Env} {N:Nat} {P:Program} {cfg:Cfg} {n0 n0':Nz} {nt:Nat} {β β':Nat→Option Nat} {σ σ':Nat→Option (Nat×Nat)} {s s' s2:St0 E N} {a a':Act} {w w':World}
theorem gf {n:Nat}:(cleaned s).getB n=(s.getB n).map fun e=>{ e with dirty:=false }:=by
 show AL (s.bx.map fun (n,e)=>(n,{ e with dirty:=false })) n=_;exact Xe (fun e:BEnt (std E N)=>{ e with dirty:=false }) s.bx n
theorem Xq {n:Nat}:(cleaned s).getH n=(s.getH n).map fun e=>{ e with dirty:=false }:=by
 show AL (s.hp.map fun (n,e)=>(n,{ e with dirty:=false })) n=_;exact Xe (fun e:HEnt (std E N)=>{ e with dirty:=false }) s.hp n
theorem G7:Sub s (cleaned s) where
 b n e h:=by
  rw [gf] at h;obtain ⟨e0,h0,rfl⟩:=zzp.1 h;exact ⟨e0,h0,rfl⟩
 h n e h:=by
  rw [Xq] at h;obtain ⟨e0,h0,rfl⟩:=zzp.1 h;exact ⟨e0,h0,rfl,rfl,rfl,fun h=>h⟩
theorem Sim.cleaned (hs:Sim P n0 nt β σ s a w):Sim P n0 nt β σ (cleaned s) a w :=
 ⟨hs.n0le,hs.size,fun n tv hn=>by
  rcases hs.T n tv hn with ⟨h1,h2⟩ | h1
  ·exact .inl ⟨h1,(G7.ext P (fun _=>False) β σ w).relAV (fun _ _ h=>h) h2⟩
  ·exact .inr h1,G7.mem hs.M,hs.kept.ext (G7.ext P (fun _=>False) β σ w)⟩
theorem WF.cleaned (h:WF s):WF (cleaned s) :=
 ⟨fun n hn=>⟨⟨fun k e he=>by
  obtain ⟨e0,h0,hc⟩:=G7.b k e he;have:=(h.fresh n hn).1.1 k e0 h0;exact ⟨this.1,by rw [hc];exact this.2⟩,fun k e he=>by
  obtain ⟨e0,h0,_⟩:=G7.h k e he;exact (h.fresh n hn).1.2 k e0 h0⟩,(h.fresh n hn).2⟩,h.gs⟩
structure Since (P:Program) (n0:Nz) (nt:Nat) (m:Ms) (β:Nat→Option Nat) (σ:Nat→Option (Nat×Nat)) (s:St0 E N) (a:Act) (w:World) (β':Nat→Option Nat) (σ':Nat→Option (Nat×Nat)) (s':St0 E N) (a':Act) (w':World):Prop where
 sim:Sim P n0 nt β' σ' s' a' w'
 ext:Ext P (fun n=>s.st≤n) β σ s w β' σ' s' w'
 tmps:∀ n,¬ m.t.testBit n=true→a'.tmps.getD n undef=a.tmps.getD n undef
 defers:a'.defers=a.defers
 B:∀ n e e',s.getB n=some e→n∉C5 s m→s'.getB n=some e'→e'.dirty=false→e'.cs=e.cs
 H:∀ n e e',s.getH n=some e→n∉qC s m→s'.getH n=some e'→e'.dirty=false→e'.e=e.e∧e'.l=e.l∧e'.nw=e.nw∧e'.frozen=e.frozen
theorem Post.since {m:Ms} (h:Post P n0 nt s.st (fun n=>m.t.testBit n=true) β σ (cleaned s) a w β' σ' s' a' w'):Since P n0 nt m β σ s a w β' σ' s' a' w' where
 sim:=h.sim
 ext:=((G7.ext P (fun _=>False) β σ w).trans h.ext).weaken (fun n h=>h.elim (fun h=>h.elim) (fun h=>h))
 tmps:=h.tmps
 defers:=h.defers
 B n e e' h1 _ h2 h3:=by
  have:=h.cleanB n e' h2 h3;rw [gf,h1] at this;cases this;rfl
 H n e e' h1 _ h2 h3:=by
  have:=h.cleanH n e' h2 h3;rw [Xq,h1] at this;cases this;exact ⟨rfl,rfl,rfl,rfl⟩
theorem Post.keptH {L:Nat} {D:Nat→Prop} (h:Post P n0 nt L D β σ (cleaned s) a w β' σ' s' a' w') {n:Nat} {e e':HEnt (std E N)} (h1:s.getH n=some e) (h2:s'.getH n=some e') (h3:e'.dirty=false):e'.e=e.e∧e'.l=e.l∧e'.nw=e.nw∧e'.frozen=e.frozen:=by
 have:=h.cleanH n e' h2 h3;rw [Xq,h1] at this;cases this;exact ⟨rfl,rfl,rfl,rfl⟩
theorem Since.weaken {m m' : Ms} (h : Since P n0 nt m β σ s a w β' σ' s' a' w') (hle : ∀ n, m.t.testBit n = true → m'.t.testBit n = true) (hB : ∀ n, n ∈ C5 s m → n ∈ C5 s m') (hH : ∀ n, n ∈ qC s m → n ∈ qC s m') :
    Since P n0 nt m' β σ s a w β' σ' s' a' w' :=
  ⟨h.sim,h.ext,fun n hn=>h.tmps n (fun k=>hn (hle n k)),h.defers,fun n e e' h1 h2=>h.B n e e' h1 (fun k=>h2 (hB n k)),fun n e e' h1 h2=>h.H n e e' h1 (fun k=>h2 (hH n k))⟩
theorem xW:∀ {hs:List (Nat×TypeId×Bool)} {a:List Ad},gw (O:=std E N) s' hs=.ok a→a.length=hs.length
 | [],a,h=>by simp only [gw] at h;cases h;rfl
 | (k,e,nw)::r,a,h=>by
  simp only [gw] at h
  split at h
  ·cases h
  split at h
  ·cases h
  split at h
  ·rename_i ls hls;cases h;rw [List.length_cons,List.length_cons,xW hls]
  ·cases h
theorem vh : ∀ {hs : List (Nat × TypeId × Bool)} {a : List Ad}, gw (O := std E N) s' hs = .ok a → ∀ {cv : List PV} {j : Nat}, Holds cv j a → ∀ {n : Nat} {h : HEnt (std E N)}, AL (RL (O := std E N) cv j hs) n = some h →
    n∈hs.map (·.1)∧h.dirty=true∧∃ h',s'.getH n=some h'∧h'.e=h.e∧h'.l=h.l∧h'.nw=h.nw∧h'.frozen=h.frozen
  | [],a,_,cv,j,_,n,h,hh=>by simp [RL,AL] at hh
  | (k,e,nw)::r,a,henc,cv,j,hc,n,h,hh=>by
    simp only [gw] at henc
    split at henc
    · cases henc
    rename_i h0 hg
    split at henc
    · cases henc
    rename_i hb
    split at henc
    case h_2=>cases henc
    rename_i ls hls;cases henc;simp only [RL,AL] at hh
    split at hh
    · rename_i hk;have:=AD.1 hk;subst this;cases hh;simp only [zzk,Bool.not_eq_true',beq_iff_eq] at hb;refine ⟨zzm,rfl,h0,hg,AD.1 hb.1,?_,hb.2.2,hb.2.1⟩;show h0.l=pvL (AA cv j);rw [hc.head];rfl
    · obtain ⟨h1,h2⟩:=vh hls hc.tail hh;exact ⟨zzn _ h1,h2⟩
theorem wS {cv:List PV}:∀ {hs:List (Nat×TypeId×Bool)} {j:Nat},(RL (O:=std E N) cv j hs).map (·.1)=hs.map (·.1)
 | [],_=>rfl
 | (k,e,nw)::r,j=>by simp only [RL,List.map_cons,wS]
theorem AAj {x:Way (std E N)} {cv:List PV} {j:Nat}:(x.baseC cv j).hp.map (·.1)=x.keep:=by
 unfold Way.baseC Way.keep;simp only [List.map_append,wS]
theorem AFW {x:Way (std E N)} {ls:List Ad} (h:x.encL s'=.ok ls):∃ a b,gw (O:=std E N) s' x.hs=.ok a∧Iy (O:=std E N) s' x.keep [] x.slots=.ok b∧ls=a++b:=by
 unfold Way.encL at h
 split at h
 ·cases h
 rename_i a ha
 split at h
 ·cases h
 rename_i b hb;cases h;exact ⟨a,b,ha,hb,rfl⟩
theorem gG {x:Way (std E N)} {cv:List PV} {j n:Nat} {h:HEnt (std E N)} (hg:(x.baseC cv j).getH n=some h):AL (RL (O:=std E N) cv j x.hs) n=some h∨AL x.base.hp n=some h:=by
 have hg:AL (RL (O:=std E N) cv j x.hs++x.base.hp) n=some h:=hg;rw [Hu] at hg;cases e:AL (RL (O:=std E N) cv j x.hs) n with
 | some y=>rw [e] at hg;exact .inl hg
 | none=>rw [e] at hg;exact .inr hg
theorem sF {cv:List PV}:∀ {hs:List (Nat×TypeId×Bool)} {j n:Nat} {h:HEnt (std E N)},AL (RL (O:=std E N) cv j hs) n=some h→n∈hs.map (·.1)∧h.dirty=true
 | [],j,n,h,hh=>by simp [RL,AL] at hh
 | (k,e,nw)::r,j,n,h,hh=>by
  simp only [RL,AL] at hh
  split at hh
  ·rename_i hk;have:=AD.1 hk;subst this;cases hh;exact ⟨zzm,rfl⟩
  ·obtain ⟨h1,h2⟩:=sF hh;exact ⟨zzn _ h1,h2⟩
theorem mU (hs : Sim P n0 nt β σ s a w) (wf : WF s) {e : Ex} {m : Ms} {live : Nat} {x : Way (std E N)} (hx : NK cfg s e m live = .ok x) (h : Since P n0 nt m β σ s a w β' σ' s' a' w')
    (hcB:∀ n e,AL x.base.bx n=some e→∃ e',s'.getB n=some e'∧e'.cs=e.cs) (hcH:∀ n e,AL x.base.hp n=some e→∃ e',s'.getH n=some e'∧e'.e=e.e∧e'.l=e.l∧e'.nw=e.nw∧e'.frozen=e.frozen)
    {ls:List Ad} (hL:x.encL s'=.ok ls) {cv:List PV} {j:Nat} (hcv:Holds cv j ls) :
    ∃ σ2,Joined P n0 nt s.st β' σ' s' a' w' (x.baseC cv j) x.slots (Bk (O:=std E N) cv (j+x.hs.length) x.base.st x.slots (x.baseC cv j)) σ2:=by
  obtain ⟨h1,h2,h3,h4,h5,h6⟩:=JA hx;obtain ⟨la,lb,hea,heb,rfl⟩:=AFW hL;have hlen:=xW hea;have hcvb:Holds cv (j+x.hs.length) lb:=by rw [← hlen];exact hcv.right
  generalize hjj:j+x.hs.length=j2 at *
  suffices hh : ∃ (σ2 : Nat → Option (Nat × Nat)) (S : St0 E N), S = Bk (O := std E N) cv (j2 + ([] : List SlotC).length) (s.st + (AP E N cv j2 s.st []).2.length) x.slots { x.baseC cv j with hp := (AP E N cv j2 s.st []).2 ++ (x.baseC cv j).hp } ∧
      RelCs P n0 β' σ2 S w' (AP E N cv j2 s.st []).1 []∧(∀ n∈AJ (AP E N cv j2 s.st []).1,n<S.st)∧Joined P n0 nt s.st β' σ' s' a' w' (x.baseC cv j) x.slots S σ2 by
    obtain ⟨σ2,S,hS,_,_,hj⟩:=hh;refine ⟨σ2,?_⟩;have:Bk (O:=std E N) cv j2 x.base.st x.slots (x.baseC cv j)=S:=by
      rw [hS];show Bk (O:=std E N) cv j2 x.base.st x.slots (x.baseC cv j)=Bk cv j2 s.st x.slots (x.baseC cv j);rw [h2]
    rw [this];exact hj
  refine AEQ (L:=s.st) (base:=x.baseC cv j) (rs:=[]) (cs:=[]) (vals:=[]) h.sim (fun n tv hn=>?_) (fun n e he=>?_) (fun n e he=>?_) trivial (fun b c hm=>?_) (used:=[]) (ls1:=[]) rfl (by rw [AAj];exact heb) (cv:=cv) (j:=j2) (by simpa using hcvb)
  · obtain ⟨g1,g2⟩:=h5 n tv hn;have hlt:∀ k∈tv.v.names,k<s.st:=fun k hk=>Nat.lt_of_not_le (fun hle=>(wf.fresh k hle).2 n tv g1 hk)
    refine ⟨wf.gs n tv g1,?_,hlt⟩;rw [h.tmps n g2]
    rcases hs.T n tv g1 with ⟨_,q⟩ | ⟨q,_⟩
    · exact h.ext.relAV (fun k hk hn=>by have:=hlt k hk;omega) q
    · exact (q (fun n b hm=>by rw [wf.gs _ tv g1] at hm;simp at hm)).elim
  · have he':AL x.base.bx n=some e:=he;have g3:=hcB n e he';rw [h3] at he';obtain ⟨g1,g2⟩:=KS.1 he';exact ⟨Nat.lt_of_not_le (fun hle=>((wf.fresh n hle).1.1 n e g1).1 rfl),g3,fun k hk=>Nat.lt_of_not_le (fun hle=>((wf.fresh k hle).1.1 n e g1).2 hk)⟩
  · rcases gG he with he' | he'
    · obtain ⟨q1,_,q2⟩:=vh hea hcv.left he';rw [wM hx] at q1;obtain ⟨_,h0,q3,_⟩:=LW q1;exact ⟨Nat.lt_of_not_le (fun hle=>(wf.fresh n hle).1.2 n h0 q3 rfl),q2⟩
    · have g3:=hcH n e he';rw [h4] at he';obtain ⟨g1,g2⟩:=LS.1 he';exact ⟨Nat.lt_of_not_le (fun hle=>(wf.fresh n hle).1.2 n e g1 rfl),g3⟩
  · obtain ⟨_,e,he⟩:=h6 b c hm;exact Nat.lt_of_not_le (fun hle=>((wf.fresh b hle).1.1 b e he).1 rfl)
theorem Since.kept {e : Ex} {m : Ms} {live : Nat} {x : Way (std E N)} (hx : NK cfg s e m live = .ok x) (h : Since P n0 nt m β σ s a w β' σ' s' a' w') (hcB : TI s' x.base.bx = true) (hcH : TF s' x.base.hp = true) :
    (∀ n e,AL x.base.bx n=some e→∃ e',s'.getB n=some e'∧e'.cs=e.cs)∧(∀ n e,AL x.base.hp n=some e→∃ e',s'.getH n=some e'∧e'.e=e.e∧e'.l=e.l∧e'.nw=e.nw∧e'.frozen=e.frozen):=by
  obtain ⟨h1,h2,h3,h4,h5,h6⟩:=JA hx;refine ⟨fun n e he'=>?_,fun n e he'=>?_⟩
  · obtain ⟨e',g3,g4⟩:=aY hcB he';rw [h3] at he';obtain ⟨g1,g2⟩:=KS.1 he';exact ⟨e',g3,h.B n e e' g1 g2 g3 g4⟩
  · obtain ⟨e',g3,g4⟩:=cY hcH he';rw [h4] at he';obtain ⟨g1,g2⟩:=LS.1 he';exact ⟨e',g3,h.H n e e' g1 g2 g3 g4⟩
theorem Joined.post {e : Ex} {m : Ms} {live : Nat} {x : Way (std E N)} {S : St0 E N} {σ2 : Nat → Option (Nat × Nat)} {cv : List PV} {j : Nat} (hx : NK cfg s e m live = .ok x) (h : Since P n0 nt m β σ s a w β' σ' s' a' w')
    (hj:Joined P n0 nt s.st β' σ' s' a' w' (x.baseC cv j) x.slots S σ2):Post P n0 nt s.st (fun n=>m.t.testBit n=true) β σ s a w β' σ2 S a' w':=by
  obtain ⟨h1,h2,h3,h4,h5,h6⟩:=JA hx;refine ⟨hj.sim,(h.ext.trans hj.ext).weaken (fun n h=>h.elim id id),fun n e he hd=>?_,fun n e he hd=>?_,h.defers,h.tmps⟩
  · have:=hj.cleanB n e he hd;have he':AL x.base.bx n=some e:=this;rw [h3] at he';exact (KS.1 he').1
  · rcases gG (hj.cleanH n e he hd) with he' | he'
    · rw [(sF he').2] at hd;cases hd
    · rw [h4] at he';exact (LS.1 he').1
theorem vr {a b:Ex}:AEN a b=true↔a=b:=by
 cases a<;>cases b<;>simp [AEN]
theorem gy {tagged : Bool} {ex : Ex} {c0 : List PV} : ∀ {ws : List (Way (std E N))} {i : Nat}, Ll (O := std E N) tagged ex s' i ws = some c0 →
    ∃ (k:Nat) (x:Way (std E N)),ws[k]?=some x∧x.e=ex∧(∀ (j:Nat) (y:Way (std E N)),j<k→ws[j]?=some y→y.e≠ex)∧x.enc (match tagged with | true=>some (i+k) | false=>none) s'=some c0
  | [],i,h=>by cases h
  | x::ws,i,h=>by
    simp only [Ll] at h
    split at h
    · rename_i he;exact ⟨0,x,rfl,(vr.1 he).symm,fun j y hj=>by omega,h⟩
    · rename_i he;obtain ⟨k,y,h1,h2,h3,h4⟩:=gy h;refine ⟨k+1,y,by simpa using h1,h2,fun j z hj hz=>?_,by rw [show i+(k+1)=i+1+k by omega];exact h4⟩;cases j with
      | zero=>simp at hz;subst hz;intro e;rw [vr.2 e.symm] at he;cases he
      | succ j=>exact h3 j z (by omega) (by simpa using hz)
def AFR (tag:Option Nat) (l:List PV):List PV:=match tag with
 | some t=>.int t::l
 | none=>l
theorem ACi {x : Way (std E N)} {tag : Option Nat} {c0 : List PV} (h : x.enc tag s' = some c0) : TI s' x.base.bx = true ∧ TF s' x.base.hp = true ∧ ∃ ls, x.encL s' = .ok ls ∧
    c0=AFR tag (ls.map Leaf.pv):=by
  unfold Way.enc at h
  split at h
  · rename_i h1 h2
    split at h
    · rename_i ls hl;refine ⟨h1,h2,ls,hl,?_⟩;cases tag with
      | none=>exact (Option.some.inj h).symm
      | some t=>exact (Option.some.inj h).symm
    · cases h
  · cases h
theorem lX {c0:List PV} {k:Ex→St0 E N→Option (List PV)} {r:List PV} {x:Way (std E N)} {t:List PV}:∀ {ws:List (Way (std E N))} {i n:Nat},Nt (O:=std E N) c0 k true i ws=some r→c0=PV.int (i+n:Nat)::t→ws[n]?=some x→k x.e (x.dec true c0)=some r
 | [],i,n,h,_,hx=>by simp at hx
 | [y],i,n,h,hc,hx=>by
  cases n with
  | zero=>simp at hx;subst hx;exact h
  | succ n=>simp at hx
 | y::z::ws,i,n,h,hc,hx=>by
  have h':(cond (pvI (AA c0 0)==((i:Nat):Int)) (k y.e (y.dec true c0)) (Nt (O:=std E N) c0 k true (i+1) (z::ws)))=some r:=h;have hp:pvI (AA c0 0)=((i+n:Nat):Int):=by rw [hc];rfl
  rw [hp] at h';cases n with
  | zero=>simp at hx;subst hx;simpa using h'
  | succ n =>
   have:(((i+(n+1):Nat):Int)==((i:Nat):Int))=false:=by simp;omega
   rw [this] at h';exact lX (i:=i+1) (n:=n) h' (by rw [hc];congr 2;omega) (by simpa using hx)
theorem AAu {A : An} {lv : Lv} {ws : List (Way (std E N))} (h : aA cfg s A lv = .ok ws) {k : Nat} {x : Way (std E N)} (hx : ws[k]? = some x) (hfst : ∀ (j : Nat) (y : Way (std E N)), j < k → ws[j]? = some y → y.e ≠ x.e) :
    ∃ m,A.at x.e=some m∧NK cfg s x.e m (lv.of x.e)=.ok x:=by
  unfold aA at h;have hone : ∀ (e : Ex) (o : Option Ms) (l : List (Way (std E N))), iu cfg s lv e o = .ok l →
      (o=none∧l=[])∨∃ m y,o=some m∧l=[y]∧NK cfg s e m (lv.of e)=.ok y:=fun e o l h=>by
    cases o with
    | none=>cases h;exact .inl ⟨rfl,rfl⟩
    | some m =>
      simp only [iu] at h
      split at h
      · rename_i y hy;cases h;exact .inr ⟨m,y,rfl,rfl,hy⟩
      · cases h
  have hexts : ∀ (l : List (Nat × Ms)) (z : List (Way (std E N))), ZT cfg s lv l = .ok z →
      ∀ (k:Nat) (x:Way (std E N)),z[k]?=some x→(∀ (j:Nat) (y:Way (std E N)),j<k→z[j]?=some y→y.e≠x.e)→∃ id m,x.e=.ext id∧BI l id=some m∧NK cfg s x.e m (lv.of x.e)=.ok x:=fun l=>by
    induction l with
    | nil=>intro z h k x hx;simp only [ZT] at h;cases h;simp at hx
    | cons p l ih =>
      obtain ⟨id,m⟩:=p;intro z h k x hx hf;simp only [ZT] at h
      split at h
      · rename_i a b ha hb;cases h
        rcases hone (.ext id) (some m) a ha with ⟨h1,_⟩ | ⟨m',y,h1,h2,h3⟩
        · cases h1
        · cases h1;subst h2;have hye:=(JA h3).1;cases k with
          | zero =>
            simp at hx;subst hx;exact ⟨id,m,hye,by simp only [BI,AD.2 rfl],by rw [hye];exact h3⟩
          | succ k =>
            obtain ⟨id',m',q1,q2,q3⟩:=ih b hb k x (by simpa using hx) (fun j y' hj hy=>hf (j+1) y' (by omega) (by simpa using hy));refine ⟨id',m',q1,?_,q3⟩;have hne:=hf 0 y (by omega) rfl;rw [hye,q1] at hne;simp only [BI];rw [BZ.2 (fun e=>hne (by rw [e]))];exact q2
      · cases h
      · cases h
  split at h
  · rename_i x0 y0 z0 hx0 hy0 hz0;cases h
    rcases hone .nrm A.nrm x0 hx0 with ⟨a1,a2⟩ | ⟨m1,y1,a1,a2,a3⟩<;>rcases hone .ret A.ret y0 hy0 with ⟨b1,b2⟩ | ⟨m2,y2,b1,b2,b3⟩
    · subst a2;subst b2;obtain ⟨id,m,q1,q2,q3⟩:=hexts _ _ hz0 k x (by simpa using hx) (fun j y hj hy=>hfst j y hj (by simpa using hy));exact ⟨m,by rw [q1];exact q2,q3⟩
    · subst a2;subst b2;have hye:=(JA b3).1;cases k with
      | zero=>simp at hx;subst hx;exact ⟨m2,by rw [hye];exact b1,by rw [hye];exact b3⟩
      | succ k =>
        obtain ⟨id,m,q1,q2,q3⟩:=hexts _ _ hz0 k x (by simpa using hx) (fun j y hj hy=>hfst (j+1) y (by omega) (by simpa using hy));exact ⟨m,by rw [q1];exact q2,q3⟩
    · subst a2;subst b2;have hye:=(JA a3).1;cases k with
      | zero=>simp at hx;subst hx;exact ⟨m1,by rw [hye];exact a1,by rw [hye];exact a3⟩
      | succ k =>
        obtain ⟨id,m,q1,q2,q3⟩:=hexts _ _ hz0 k x (by simpa using hx) (fun j y hj hy=>hfst (j+1) y (by omega) (by simpa using hy));exact ⟨m,by rw [q1];exact q2,q3⟩
    · subst a2;subst b2;have hye:=(JA a3).1;have hye2:=(JA b3).1
      match k with
      | 0=>simp at hx;subst hx;exact ⟨m1,by rw [hye];exact a1,by rw [hye];exact a3⟩
      | 1=>simp at hx;subst hx;exact ⟨m2,by rw [hye2];exact b1,by rw [hye2];exact b3⟩
      | k+2 =>
        obtain ⟨id,m,q1,q2,q3⟩:=hexts _ _ hz0 k x (by simpa using hx) (fun j y hj hy=>hfst (j+2) y (by omega) (by simpa using hy));exact ⟨m,by rw [q1];exact q2,q3⟩
  · cases h
  · cases h
  · cases h
theorem S6 {pre:List PV} {ls:List Ad}:Holds (pre++ls.map Leaf.pv) pre.length ls:=fun i l hl=>by
 unfold AA;rw [zzl,List.getElem?_append_right (by omega)];rw [show pre.length+i - pre.length=i by omega,List.getElem?_map,hl];rfl
theorem leave (hs : Sim P n0 nt β σ s a w) (wf : WF s) {A : An} {lv : Lv} {ws : List (Way (std E N))} (hws : aA cfg s A lv = .ok ws) {ex : Ex} {c0 r : List PV} {k : Ex → St0 E N → Option (List PV)} (h1 : Ll (O := std E N) (Nat.blt 1 ws.length) ex s' 0 ws = some c0)
    (h2:Nt (O:=std E N) c0 k (Nat.blt 1 ws.length) 0 ws=some r) :
    ∃ m,A.at ex=some m∧(Since P n0 nt m β σ s a w β' σ' s' a' w'→∃ S σ2,k ex S=some r∧Post P n0 nt s.st (fun n=>m.t.testBit n=true) β σ s a w β' σ2 S a' w'∧WF S∧s.st≤S.st):=by
  obtain ⟨i,x,g1,g2,g3,g4⟩:=gy h1;subst g2;obtain ⟨m,q1,q2⟩:=AAu hws g1 g3;refine ⟨m,q1,fun hsince=>?_⟩;cases ht:Nat.blt 1 ws.length with
  | true =>
    rw [ht] at h2 g4;obtain ⟨e1,e2,ls,e3,e4⟩:=ACi g4;have e4:c0=PV.int ((0+i:Nat):Int)::ls.map Leaf.pv:=e4;have hk:=lX h2 e4 g1;obtain ⟨σ2,hj⟩:=mU hs wf q2 hsince (hsince.kept q2 e1 e2).1 (hsince.kept q2 e1 e2).2 e3 (cv:=c0) (j:=1) (by rw [e4];exact S6 (pre:=[PV.int ((0+i:Nat):Int)]));exact ⟨_,σ2,hk,hj.post q2 hsince,hj.wf,hj.st⟩
  | false =>
    rw [ht] at h2 g4;obtain ⟨e1,e2,ls,e3,e4⟩:=ACi g4;have e4:c0=ls.map Leaf.pv:=e4;have hlen:ws.length≤1:=by
      rcases Nat.lt_or_ge 1 ws.length with h | h
      · rw [Bm.2 h] at ht;cases ht
      · exact h
    have hi:=(List.getElem?_eq_some_iff.1 g1).1;obtain ⟨y,rfl⟩:∃ y,ws=[y]:=by
      match ws,hlen,hi with
      | [y],_,_=>exact ⟨y,rfl⟩
    have:i=0:=by simp at hi;exact hi
    subst this;simp at g1;subst g1;have hk:k y.e (y.dec false c0)=some r:=h2;obtain ⟨σ2,hj⟩:=mU hs wf q2 hsince (hsince.kept q2 e1 e2).1 (hsince.kept q2 e1 e2).2 e3 (cv:=c0) (j:=0) (by rw [e4];exact S6 (pre:=[]));exact ⟨_,σ2,hk,hj.post q2 hsince,hj.wf,hj.st⟩
end
def pS:Ex→Exit
 | .nrm=>.normal
 | .ext id=>.exit id
 | .ret=>.ret
abbrev Run (E:Env) (N:Nat):=Code→Bool→Lv→St0 E N→(Ex→St0 E N→Option (List PV))→Option (List PV)
def Arr {E:Env} {N:Nat} (P:Program) (n0:Nz) (nt:Nat) (A:An) (β:Nat→Option Nat) (σ:Nat→Option (Nat×Nat)) (s:St0 E N) (a:Act) (w:World) (k:Ex→St0 E N→Option (List PV)) (r:List PV) (Q:Exit→Act→World→Prop):Prop :=
 ∀ (ex:Ex) (s':St0 E N) (β':Nat→Option Nat) (σ':Nat→Option (Nat×Nat)) (a':Act) (w':World),k ex s'=some r→∀ m,A.at ex=some m→Post P n0 nt s.st (fun n=>m.t.testBit n=true) β σ s a w β' σ' s' a' w'→WF s'→s.st≤s'.st→Q (pS ex) a' w'
def yS {E:Env} {N:Nat} (P:Program) (R:Run E N):Prop :=
 ∀ (n0:Nz) (nt:Nat) (c:Code),C8 nt c=true→∀ (light:Bool) (lv:Lv) (s:St0 E N) (k:Ex→St0 E N→Option (List PV)) (r:List PV) (β:Nat→Option Nat) (σ:Nat→Option (Nat×Nat)) (a:Act) (w:World) (Q:Exit→Act→World→Prop),
  R c light lv s k=some r→Sim P n0 nt β σ s a w→WF s→Arr P n0 nt (an P c) β σ s a w k r Q→c.wp P Q a w
section
variable {E:Env} {N:Nat} {P:Program} {cfg:Cfg} {n0 n0':Nz} {nt:Nat} {β β':Nat→Option Nat} {σ σ':Nat→Option (Nat×Nat)} {s s' s2:St0 E N} {a a':Act} {w w':World}
theorem Post.wide {L:Nat} {D D':Nat→Prop} (h:Post P n0 nt L D β σ s a w β' σ' s' a' w') (hd:∀ n,D n→D' n):Post P n0 nt L D' β σ s a w β' σ' s' a' w' :=
 ⟨h.sim,h.ext,h.cleanB,h.cleanH,h.defers,fun n hn=>h.tmps n (fun k=>hn (hd n k))⟩
theorem Post.refl (hs:Sim P n0 nt β σ s a w) {L:Nat} {D:Nat→Prop}:Post P n0 nt L D β σ s a w β σ s a w :=
 ⟨hs,Ext.refl _ _ _ _ _ _,fun n e h _=>h,fun n e h _=>h,rfl,fun _ _=>rfl⟩
theorem w7 {x y:Code} {ex:Ex} {m:Ms} (hne:ex≠.nrm) (h:(an P x).at ex=some m):Wide ((an P (.seq x y)).at ex) m:=by
 simp only [an];generalize an P x=A at h ⊢;obtain ⟨n,r,e⟩:=A;cases n with
 | none=>cases ex<;>first | exact (hne rfl).elim | exact ⟨m,h,Ms.le_refl _⟩
 | some m1 =>
  generalize an P y=B;obtain ⟨n',r',e'⟩:=B;cases ex with
  | nrm=>exact (hne rfl).elim
  | ret=>exact Wide.orL ⟨m,h,Ms.le_refl _⟩
  | ext id=>exact Wide.allR ⟨m,h,Ms.le_refl _⟩
theorem AEO {x y:Code} {ex:Ex} {m m':Ms} (h:(an P x).at .nrm=some m) (k:(an P y).at ex=some m'):Wide ((an P (.seq x y)).at ex) (m.or m'):=by
 simp only [an];generalize an P x=A at h ⊢;obtain ⟨n,r,e⟩:=A;have h:n=some m:=h;subst h;generalize an P y=B at k ⊢;obtain ⟨n',r',e'⟩:=B;cases ex with
 | nrm=>exact Wide.then (o:=n') ⟨m',k,Ms.le_refl _⟩
 | ret=>exact Wide.orR (Wide.then (o:=r') ⟨m',k,Ms.le_refl _⟩)
 | ext id=>exact Wide.allL (Wide.map (l:=e') ⟨m',k,Ms.le_refl _⟩)
theorem tB {c:Operand} {x y:Code} {ex:Ex} {m:Ms} (h:(an P x).at ex=some m):Wide ((an P (.cond c x y)).at ex) m:=by
 simp only [an];generalize an P x=A at h ⊢;generalize an P y=B;obtain ⟨n,r,e⟩:=A;obtain ⟨n',r',e'⟩:=B;cases ex with
 | nrm=>exact Wide.orL ⟨m,h,Ms.le_refl _⟩
 | ret=>exact Wide.orL ⟨m,h,Ms.le_refl _⟩
 | ext id=>exact Wide.allL (l:=e) ⟨m,h,Ms.le_refl _⟩
theorem sn {c:Operand} {x y:Code} {ex:Ex} {m:Ms} (h:(an P y).at ex=some m):Wide ((an P (.cond c x y)).at ex) m:=by
 simp only [an];generalize an P x=A;generalize an P y=B at h ⊢;obtain ⟨n,r,e⟩:=A;obtain ⟨n',r',e'⟩:=B;cases ex with
 | nrm=>exact Wide.orR ⟨m,h,Ms.le_refl _⟩
 | ret=>exact Wide.orR ⟨m,h,Ms.le_refl _⟩
 | ext id=>exact Wide.allR (r:=e') ⟨m,h,Ms.le_refl _⟩
theorem vH {id:Nat} {x:Code} {m:Ms} (h:(an P x).at (.ext id)=some m):Wide ((an P (.block id x)).at .nrm) m:=by
 simp only [an];generalize an P x=A at h ⊢;obtain ⟨n,r,e⟩:=A;exact Wide.orR ⟨m,h,Ms.le_refl _⟩
theorem nF {id:Nat} {x:Code} {ex:Ex} {m:Ms} (h:(an P x).at ex=some m) (hne:ex≠.ext id):Wide ((an P (.block id x)).at ex) m:=by
 simp only [an];generalize an P x=A at h ⊢;obtain ⟨n,r,e⟩:=A;cases ex with
 | nrm=>exact Wide.orL ⟨m,h,Ms.le_refl _⟩
 | ret=>exact ⟨m,h,Ms.le_refl _⟩
 | ext j =>
  refine ⟨m,?_,Ms.le_refl _⟩;show BI (OC e id) j=some m;rw [lK,if_neg (fun hj=>hne (by rw [hj]))];exact h
theorem AAW {x:Code} {ex:Ex} {m m':Ms} (hne:ex≠.nrm) (h:(an P x).at .nrm=some m) (k:(an P x).at ex=some m'):Wide ((an P (.loop x)).at ex) (m.or m'):=by
 simp only [an];generalize an P x=A at h k ⊢;obtain ⟨n,r,e⟩:=A;have h:n=some m:=h;subst h;cases ex with
 | nrm=>exact (hne rfl).elim
 | ret=>exact Wide.then (o:=r) ⟨m',k,Ms.le_refl _⟩
 | ext id=>exact Wide.map (l:=e) ⟨m',k,Ms.le_refl _⟩
theorem Arr.wide {A : An} {k : Ex → St0 E N → Option (List PV)} {r : List PV} {Q : Exit → Act → World → Prop} (hQ : Arr P n0 nt A β σ s a w k r Q) {ex : Ex} {m : Ms} (hm : Wide (A.at ex) m) (hk : k ex s' = some r)
    (hp:Post P n0 nt s.st (fun n=>m.t.testBit n=true) β σ s a w β' σ' s' a' w') (wf':WF s') (hle:s.st≤s'.st):Q (pS ex) a' w':=by
  obtain ⟨m2,h1,h2⟩:=hm;exact hQ ex s' β' σ' a' w' hk m2 h1 (hp.wide (fun n=>(h2 n).1)) wf' hle
theorem Arr.leave {A B : An} {lv : Lv} {ws : List (Way (std E N))} (hs : Sim P n0 nt β σ s a w) (wf : WF s) (hws : aA cfg s A lv = .ok ws) {k : Ex → St0 E N → Option (List PV)} {c0 r : List PV} {Q : Exit → Act → World → Prop}
    (hd:Nt (O:=std E N) c0 k (Nat.blt 1 ws.length) 0 ws=some r) (hQ:Arr P n0 nt A β σ s a w k r Q) (hAB:∀ ex m,B.at ex=some m→Wide (A.at ex) m) :
    Arr P n0 nt B β σ (cleaned s) a w (fun e s'=>Ll (O:=std E N) (Nat.blt 1 ws.length) e s' 0 ws) c0 Q:=by
  intro ex s' β' σ' a' w' hk m hm hp wf' hle;obtain ⟨m1,q1,q2⟩:=Px.leave (β':=β') (σ':=σ') (a':=a') (w':=w') hs wf hws hk hd;obtain ⟨m2,q3,q4⟩:=hAB ex m hm;rw [q1] at q3;cases q3;obtain ⟨S,σ2,g1,g2,g3,g4⟩:=q2 (hp.wide (fun n=>(q4 n).1)).since;exact hQ ex S β' σ2 a' w' g1 m1 q1 g2 g3 g4
theorem AD9 (hs:Sim P n0 nt β σ s a w) {c:Operand} {x:Bool} (h:ABO (O:=std E N) s c=some x):a.eval c=.bool x:=by
 unfold ABO at h
 split at h
 ·rename_i n
  split at h
  ·rename_i b hb;cases h
   rcases hs.T n _ hb with ⟨_,h1⟩ | ⟨h1,_⟩
   ·have h2:RelVal P n0 β σ s w (⟨false,[.bool x]⟩:Val (std E N)) (a.tmps.getD n undef):=h1;obtain ⟨h3,h4⟩:=h2;have h4:(a.tmps.getD n undef).oneCell'=true:=h4;rw [BS h4] at h3;exact h3.1
   ·exact (h1 (fun n b hm=>by simp at hm)).elim
  ·cases h
 ·rename_i b;cases h;cases b<;>rfl
 ·cases h
theorem bG {p:Nat→Prop} (h:∃ n,p n):∃ n,p n∧∀ m,p m→n≤m:=by
 obtain ⟨n,hn⟩:=h
 induction n using Nat.strongRecOn with
 | _ n ih =>
  by_cases hx:∃ m,m<n∧p m
  ·obtain ⟨m,h1,h2⟩:=hx;exact ih m h1 h2
  ·exact ⟨n,hn,fun m hm=>Nat.le_of_not_lt (fun hlt=>hx ⟨m,hlt,hm⟩)⟩
theorem ue {c:Code} {Q:Exit→Act→World→Prop} (J:Nat→Act→World→Prop) (round:∀ n a w,J n a w→c.wp P (Exit.then (fun a' w'=>∃ m,m<n∧J m a' w') Q) a w) {n:Nat} (h:J n a w):(Code.loop c).wp P Q a w:=by
 classical
 refine wp_loop (fun a w=>∃ n,J n a w) (fun a w=>if h:∃ n,J n a w then Classical.choose (bG h) else 0) ⟨n,h⟩ (fun a w hI=>?_);have hmin:=Classical.choose_spec (bG hI);refine wp_mono (round _ a w hmin.1) (fun e a' w' hq=>?_);cases e with
 | normal =>
  obtain ⟨m,hlt,hm⟩:=hq;have hI':∃ n,J n a' w':=⟨m,hm⟩;refine ⟨hI',?_⟩;rw [dif_pos hI',dif_pos hI];exact Nat.lt_of_le_of_lt ((Classical.choose_spec (bG hI')).2 m hm) hlt
 | _=>exact hq
theorem AGg (hmix:P.follows .mixedOrders=true) (inl:Inl E N) (hInl:vZ P inl) (hΓ:∀ ci∈cfg.gam,Bx P E N ci∧Bx P E N { ci with own:=false }):yS P (X P cfg inl:Run E N):=by
  intro n0 nt c
  induction c with
  | skip =>
    intro _ light lv s k r β σ a w Q h hs wf hQ;exact wp_skip (hQ .nrm s β σ a w h _ rfl (Post.refl hs) wf (Nat.le_refl _))
  | exit id =>
    intro _ light lv s k r β σ a w Q h hs wf hQ;refine wp_exit (hQ (.ext id) s β σ a w h ⟨0,0⟩ ?_ (Post.refl hs) wf (Nat.le_refl _));show BI [(id,⟨0,0⟩)] id=_;simp only [BI,AD.2 rfl]
  | ret =>
    intro _ light lv s k r β σ a w Q h hs wf hQ;exact wp_ret (hQ .ret s β σ a w h ⟨0,0⟩ rfl (Post.refl hs) wf (Nat.le_refl _))
  | region rid ops draw =>
    intro ht light lv s k r β σ a w Q h hs wf hQ;have ht:Ml nt ops.toList=true:=ht;have h:(match ops.toList.any rz with
      | true=>(std E N).n (std E N).e ((std E N).a [])
      | false=>Ka (O:=std E N) P cfg inl ops.toList draw s (fun s'=>k .nrm s'))=some r:=h
    have h:Ka (O:=std E N) P cfg inl ops.toList draw s (fun s'=>k .nrm s')=some r:=by
      cases hp:ops.toList.any rz with
      | true=>rw [hp] at h;cases h
      | false=>rw [hp] at h;exact h
    have fin:∀ (s':St0 E N) (β':Nat→Option Nat) (σ':Nat→Option (Nat×Nat)) (a':Act) (w':World),k .nrm s'=some r→Post P n0 nt s.st (fun n=>n∈Al ops.toList) β σ s a w β' σ' s' a' w'→WF s'→s.st≤s'.st→Q .normal a' w' :=
      fun s' β' σ' a' w' hk hp wf' hle=>hQ .nrm s' β' σ' a' w' hk _ rfl (hp.wide (fun n hn=>WV hn)) wf' hle
    cases draw with
    | false=>exact AAs inl hInl hΓ ht h hs wf fin
    | true=>exact zF hmix inl hΓ ht h hs wf fin
  | seq x y ihx ihy =>
    intro ht light lv s k r β σ a w Q h hs wf hQ;simp only [C8,zzk] at ht;refine wp_seq (ihx ht.1 _ _ s _ r β σ a w _ h hs wf (fun ex s1 β1 σ1 a1 w1 hk m hm hp wf1 hle=>?_));cases ex with
    | nrm =>
      refine ihy ht.2 _ _ s1 k r β1 σ1 a1 w1 Q hk hp.sim wf1 (fun ex s2 β2 σ2 a2 w2 hk2 m2 hm2 hp2 wf2 hle2=>?_);refine hQ.wide (AEO hm hm2) hk2 ((hp.trans hp2 hle).wide (fun n hn=>?_)) wf2 (by omega);simp only [Ms.or,Nat.testBit_or,Bool.or_eq_true];exact hn
    | ret=>exact hQ.wide (w7 (fun h=>by cases h) hm) hk hp wf1 hle
    | ext id=>exact hQ.wide (w7 (fun h=>by cases h) hm) hk hp wf1 hle
  | cond c x y ihx ihy =>
    intro ht light lv s k r β σ a w Q h hs wf hQ;simp only [C8,zzk] at ht;simp only [X] at h
    split at h
    · cases h
    rename_i b hb;have hc:=AD9 hs hb
    split at h
    · have h:(cond b (X P cfg inl x light lv s k) (X P cfg inl y light lv s k))=some r:=h;cases b with
      | true =>
        refine wp_cond_true hc (ihx ht.1 _ _ s k r β σ a w Q (by simpa using h) hs wf (fun ex s1 β1 σ1 a1 w1 hk m hm hp wf1 hle=>?_));exact hQ.wide (tB hm) hk hp wf1 hle
      | false =>
        refine wp_cond_false hc (ihy ht.2 _ _ s k r β σ a w Q (by simpa using h) hs wf (fun ex s1 β1 σ1 a1 w1 hk m hm hp wf1 hle=>?_));exact hQ.wide (sn hm) hk hp wf1 hle
    · unfold scope at h
      split at h
      · cases h
      rename_i ws hws;obtain ⟨c0,h1,h2⟩:=Option.bind_eq_some_iff.1 h;have h1:(cond b (X P cfg inl x true lv (cleaned s) (fun e s'=>Ll (O:=std E N) (Nat.blt 1 ws.length) e s' 0 ws)) (X P cfg inl y true lv (cleaned s) (fun e s'=>Ll (O:=std E N) (Nat.blt 1 ws.length) e s' 0 ws)))=some c0:=h1;cases b with
      | true=>exact wp_cond_true hc (ihx ht.1 _ _ (cleaned s) _ c0 β σ a w Q (by simpa using h1) hs.cleaned wf.cleaned (hQ.leave hs wf hws h2 (fun ex m hm=>tB hm)))
      | false=>exact wp_cond_false hc (ihy ht.2 _ _ (cleaned s) _ c0 β σ a w Q (by simpa using h1) hs.cleaned wf.cleaned (hQ.leave hs wf hws h2 (fun ex m hm=>sn hm)))
  | block id x ih =>
    intro ht light lv s k r β σ a w Q h hs wf hQ;have ht:C8 nt x=true:=ht;have hQ' : Arr P n0 nt (an P x) β σ s a w (fun e s' => match e with
        | .ext i=>match Nat.beq i id with
          | true=>k .nrm s'
          | false=>k e s'
        | e=>k e s') r (Exit.inBlock id Q):=by
      intro ex s1 β1 σ1 a1 w1 hk m hm hp wf1 hle;cases ex with
      | nrm=>exact hQ.wide (nF hm (fun h=>by cases h)) hk hp wf1 hle
      | ret=>exact hQ.wide (nF hm (fun h=>by cases h)) hk hp wf1 hle
      | ext i =>
        show (if i=id then Q .normal a1 w1 else Q (.exit i) a1 w1);simp only at hk
        split at hk
        · rename_i hi;have:=AD.1 hi;subst this;rw [if_pos rfl];exact hQ.wide (vH hm) hk hp wf1 hle
        · rename_i hi;have hne:=BZ.1 hi;rw [if_neg hne];exact hQ.wide (nF hm (fun h=>hne (by cases h;rfl))) hk hp wf1 hle
    simp only [X] at h;refine wp_block ?_
    split at h
    · exact ih ht _ _ s _ r β σ a w _ h hs wf hQ'
    · unfold scope at h
      split at h
      · cases h
      rename_i ws hws;obtain ⟨c0,h1,h2⟩:=Option.bind_eq_some_iff.1 h;exact ih ht _ _ (cleaned s) _ c0 β σ a w _ h1 hs.cleaned wf.cleaned (hQ'.leave hs wf hws h2 (fun ex m hm=>⟨m,hm,Ms.le_refl _⟩))
  | loop x ih =>
    intro ht light lv s k r β σ a w Q h hs wf hQ;have ht:C8 nt x=true:=ht;simp only [X] at h
    split at h
    · cases h
    rename_i m hm
    split at h
    case h_2=>cases h
    case h_3=>cases h
    rename_i head ws hhead hws
    split at h
    · cases h
    rename_i ls0 henc0;obtain ⟨c0,h1,h2⟩:=Option.bind_eq_some_iff.1 h;obtain ⟨g1,g2,g3,g4,g5,g6⟩:=JA hhead;generalize hF:(fun (self:List Ad→Option (List PV)) (c:List PV)=>X P cfg inl x true { lv with nrm:=Xc x ||| lv.all } (cleaned (head.dec false c)) (AB3 (O:=std E N) head ws (Nat.blt 1 ws.length) self))=F at h1;have h1:DU F N (ls0.map Leaf.pv)=some c0:=h1
    let J:Nat→Act→World→Prop:=fun n a1 w1=>∃ (c:List PV) (β1:Nat→Option Nat) (σ1:Nat→Option (Nat×Nat)),DU F n c=some c0∧Sim P n0 nt β1 σ1 (head.dec false c) a1 w1∧Ext P (fun n=>s.st≤n) β σ s w β1 σ1 (head.dec false c) w1∧WF (head.dec false c) ∧
      s.st≤(head.dec false c).st∧(∀ n e,(head.dec false c).getB n=some e→head.base.getB n=some e∨∃ c,Slot.b n c∈head.slots)∧(∀ n h,n<s.st→(head.dec false c).getH n=some h→head.base.getH n=some h∨n∈head.hs.map (·.1))∧a1.defers=a.defers∧∀ n,¬ m.t.testBit n=true→a1.tmps.getD n undef=a.tmps.getD n undef
    have since0:Since P n0 nt m β σ s a w β σ s a w:=⟨hs,Ext.refl _ _ _ _ _ _,fun _ _=>rfl,rfl,fun n e e' q1 _ q2 _=>by rw [q1] at q2;cases q2;rfl,fun n e e' q1 _ q2 _=>by rw [q1] at q2;cases q2;exact ⟨rfl,rfl,rfl,rfl⟩⟩;have toHead : ∀ {n : Nat} {β1 : Nat → Option Nat} {σ1 : Nat → Option (Nat × Nat)} {s1 : St0 E N} {a1 : Act} {w1 : World} {ls : List Ad}, Since P n0 nt m β σ s a w β1 σ1 s1 a1 w1 → (∀ n e, AL head.base.bx n = some e → ∃ e', s1.getB n = some e' ∧ e'.cs = e.cs) → (∀ n e, AL head.base.hp n = some e → ∃ e', s1.getH n = some e' ∧ e'.e = e.e ∧ e'.l = e.l ∧ e'.nw = e.nw ∧ e'.frozen = e.frozen) → head.encL s1 = .ok ls →
        DU F n (ls.map Leaf.pv)=some c0→J n a1 w1:=fun {n β1 σ1 s1 a1 w1 ls} hsi q1 q2 q3 q4=>by
      obtain ⟨σ2,hj⟩:=mU hs wf hhead hsi q1 q2 q3 (cv:=ls.map Leaf.pv) (j:=0) (S6 (pre:=[]));have hp:=hj.post hhead hsi;exact ⟨ls.map Leaf.pv,β1,σ2,q4,hj.sim,hp.ext,hj.wf,hj.st,hj.oldB,fun n h hn hh=>(gG (hj.oldH n h hn hh)).elim (fun q=>.inr (sF q).1) .inl,hsi.defers,hsi.tmps⟩
    have hkeepB:∀ (n:Nat) (e:BEnt (std E N)),AL (QT s (C5 s m)) n=some e→AL head.base.bx n=some e:=fun n e he=>by rw [g3];exact he
    have fromHead : ∀ {m2 : Ms} {c : List PV} {β1 β2 : Nat → Option Nat} {σ1 σ2 : Nat → Option (Nat × Nat)} {a1 a2 : Act} {w1 w2 : World} {s2 : St0 E N}, m.le m2 → Ext P (fun n => s.st ≤ n) β σ s w β1 σ1 (head.dec false c) w1 → s.st ≤ (head.dec false c).st →
        (∀ n e,(head.dec false c).getB n=some e→head.base.getB n=some e∨∃ c,Slot.b n c∈head.slots)→(∀ n h,n<s.st→(head.dec false c).getH n=some h→head.base.getH n=some h∨n∈head.hs.map (·.1))→a1.defers=a.defers→(∀ n,¬ m.t.testBit n=true→a1.tmps.getD n undef=a.tmps.getD n undef) →
        Post P n0 nt (head.dec false c).st (fun n=>m2.t.testBit n=true) β1 σ1 (cleaned (head.dec false c)) a1 w1 β2 σ2 s2 a2 w2→Since P n0 nt m2 β σ s a w β2 σ2 s2 a2 w2:=fun {m2 c β1 β2 σ1 σ2 a1 a2 w1 w2 s2} hle hx hst hoB hoH hd ht hp=>by
      refine ⟨hp.sim,((hx.trans (G7.ext P (fun _=>False) β1 σ1 w1)).trans hp.ext).weaken (fun n hn=>?_),fun n hn=>(hp.tmps n hn).trans (ht n (fun h=>hn ((hle n).1 h))),hp.defers.trans hd,fun n e e' q1 q2 q3 q4=>?_,fun n e e' q1 q2 q3 q4=>?_⟩
      · rcases hn with (hn | hn) | hn
        · exact hn
        · exact hn.elim
        · exact Nat.le_trans hst hn
      · have h5:=hp.cleanB n e' q3 q4;rw [gf] at h5;obtain ⟨e1,h6,h7⟩:=zzp.1 h5
        rcases hoB n e1 h6 with h8 | ⟨c',h8⟩
        · have h8':AL head.base.bx n=some e1:=h8;rw [g3] at h8';have:=(KS.1 h8').1;rw [q1] at this;cases this;rw [← h7]
        · exact (q2 (vk hle (g6 n c' h8).1)).elim
      · have h5:=hp.cleanH n e' q3 q4;rw [Xq] at h5;obtain ⟨e1,h6,h7⟩:=zzp.1 h5;have hn:n<s.st:=Nat.lt_of_not_le (fun hle=>(wf.fresh n hle).1.2 n e q1 rfl)
        rcases hoH n e1 hn h6 with h8 | h8
        · have h8':AL head.base.hp n=some e1:=h8;rw [g4] at h8';have:=(LS.1 h8').1;rw [q1] at this;cases this;rw [← h7];exact ⟨rfl,rfl,rfl,rfl⟩
        · rw [wM hhead] at h8;exact (q2 (List.mem_append_right _ (ADM hle h8))).elim
    refine ue J (fun n a1 w1 hJ=>?_) (n:=N) (a:=a) (w:=w) ?_
    · obtain ⟨c,β1,σ1,hit,hs1,hx1,wf1,hst1,hoB1,hoH1,hd1,ht1⟩:=hJ;cases n with
      | zero=>cases hit
      | succ n =>
        have hit:F (fun ls=>DU F n (ls.map Leaf.pv)) c=some c0:=hit;rw [← hF] at hit;refine ih ht _ _ (cleaned (head.dec false c)) _ c0 β1 σ1 a1 w1 _ hit hs1.cleaned wf1.cleaned (fun ex s2 β2 σ2 a2 w2 hk m2 hm2 hp wf2 hle=>?_);cases ex with
        | nrm =>
          have:m2=m:=by
            have h3:(an P x).nrm=some m2:=hm2;rw [hm] at h3;cases h3;rfl
          subst this;simp only [AB3] at hk
          split at hk
          · rename_i q1 q2
            split at hk
            · rename_i ls q3;have hsi:=fromHead (Ms.le_refl _) hx1 hst1 hoB1 hoH1 hd1 ht1 hp;exact ⟨n,Nat.lt_succ_self n,toHead hsi (hsi.kept hhead q1 q2).1 (hsi.kept hhead q1 q2).2 q3 (by rw [← hF];exact hk)⟩
            · cases hk
          · cases hk
        | ret =>
          obtain ⟨m3,q1,q2⟩:=AAW (P:=P) (x:=x) (ex:=.ret) (fun h=>by cases h) hm hm2;have hle1:m.le m3:=Ms.le_trans (Ms.le_or_left _ _) q2;have hle2:m2.le m3:=Ms.le_trans (Ms.le_or_right _ _) q2;have hsi:=fromHead hle1 hx1 hst1 hoB1 hoH1 hd1 ht1 (hp.wide (fun n=>(hle2 n).1));obtain ⟨m4,r1,r2⟩:=Px.leave (β':=β2) (σ':=σ2) (a':=a2) (w':=w2) hs wf hws hk h2;rw [q1] at r1;cases r1;obtain ⟨S,σ3,t1,t2,t3,t4⟩:=r2 hsi;exact hQ .ret S β2 σ3 a2 w2 t1 m3 q1 t2 t3 t4
        | ext id =>
          obtain ⟨m3,q1,q2⟩:=AAW (P:=P) (x:=x) (ex:=.ext id) (fun h=>by cases h) hm hm2;have hle1:m.le m3:=Ms.le_trans (Ms.le_or_left _ _) q2;have hle2:m2.le m3:=Ms.le_trans (Ms.le_or_right _ _) q2;have hsi:=fromHead hle1 hx1 hst1 hoB1 hoH1 hd1 ht1 (hp.wide (fun n=>(hle2 n).1));obtain ⟨m4,r1,r2⟩:=Px.leave (β':=β2) (σ':=σ2) (a':=a2) (w':=w2) hs wf hws hk h2;rw [q1] at r1;cases r1;obtain ⟨S,σ3,t1,t2,t3,t4⟩:=r2 hsi;exact hQ (.ext id) S β2 σ3 a2 w2 t1 m3 q1 t2 t3 t4
    ·
      exact toHead since0 (fun n e he=>⟨e,by rw [g3] at he;exact (KS.1 he).1,rfl⟩) (fun n e he=>⟨e,by rw [g4] at he;exact (LS.1 he).1,rfl,rfl,rfl,rfl⟩) henc0 h1
  | _ =>
    intro _ light lv s k r β σ a w Q h hs wf hQ;cases h
end
theorem kg {n m:Nat} (h:n≤m):∀ {l:List Oper},Ml n l=true→Ml m l=true
 | [],_=>rfl
 | o::l,hl=>by
  simp only [Ml,zzk] at hl ⊢;refine ⟨?_,kg h hl.2⟩;cases hd:o.dst with
  | none=>rfl
  | some d =>
   rw [hd] at hl;have:=Bm.1 hl.1;exact Bm.2 (by omega)
theorem Rq {n m:Nat} (h:n≤m):∀ {c:Code},C8 n c=true→C8 m c=true:=by
 intro c
 induction c with
 | region id ops draw=>exact kg h
 | seq x y ihx ihy=>intro hc;simp only [C8,zzk] at hc ⊢;exact ⟨ihx hc.1,ihy hc.2⟩
 | cond c x y ihx ihy=>intro hc;simp only [C8,zzk] at hc ⊢;exact ⟨ihx hc.1,ihy hc.2⟩
 | block id x ih=>exact ih
 | loop x ih=>exact ih
 | _=>exact fun _=>rfl
section
variable {E:Env} {N:Nat} {P:Program} {cfg:Cfg} {n0 n0':Nz} {nt:Nat} {β β':Nat→Option Nat} {σ σ':Nat→Option (Nat×Nat)} {s s' s2:St0 E N} {a a':Act} {w w':World}
def jP (tmps:Array Value):ResultVar→Sem Value
 | .tmp t=>pure (tmps.getD t undef)
 | .cell a t=>do loadVar t (← asAddr (tmps.getD a undef))
theorem vd (hs:Sim P n0 nt β σ s a w) {n:Nat} {v:AV (std E N)} (h:s.getT n=some ⟨[],v⟩):RelAV P n0 β σ s w v (a.tmps.getD n undef):=by
 rcases hs.T n _ h with ⟨_,h1⟩ | ⟨h1,_⟩
 ·exact h1
 ·exact (h1 (fun n b hm=>by simp at hm)).elim
theorem ACp (hs:Sim P n0 nt β σ s a w) {rv:ResultVar} {v:Val (std E N)} (h:xw P s rv=some v):(∃ z,(jP a.tmps rv).run P w=.ok z w∧RelVal P n0 β σ s w v z)∧∀ n,(Ma s n∧∀ k tv,s.getT k=some tv→n∉tv.v.names)→n∉AJ v.cs:=by
 unfold xw at h
 split at h
 ·rename_i t
  split at h
  ·rename_i y hy;cases h;exact ⟨⟨_,rfl,vd hs hy⟩,fun n hf=>hf.2 t _ hy⟩
  ·cases h
 ·rename_i t T
  split at h
  ·rename_i b off hb
   split at h
   ·rename_i e he
    split at h
    ·rename_i cs hcs
     split at h
     ·rename_i hag;cases h;have h1:RelVal P n0 β σ s w (⟨false,[.ptr b off]⟩:Val (std E N)) (a.tmps.getD t undef):=vd hs hb;obtain ⟨h2,h3⟩:=h1;have h3:(a.tmps.getD t undef).oneCell'=true:=h3;rw [BS h3] at h2;have hp:Mr β s b off (a.tmps.getD t undef):=h2.1;obtain ⟨blk,cells,el,hv,hβ,hheap,hrel⟩:=gu hs.M he hp;obtain ⟨e1,e2⟩:=EA hcs;have hrr:=RelCs.take (P.cellsOf T) (RelCs.drop off hrel);rw [← e1] at hrr;obtain ⟨x,hx,hrx⟩:=To hrr hag ((RelCs.length hrr).symm.trans e2) (fun j x hj=>Rj hheap off _ j x hj);refine ⟨⟨x,?_,hrx⟩,fun n hf hm=>(hf.1.1 b e he).2 (Ee hcs hm)⟩;simp only [jP,hv,Sem.run_bind];simp [asAddr,hx]
     ·cases h
    ·cases h
   ·cases h
  ·cases h
theorem cO (hs:Sim P n0 nt β σ s a w):∀ {rv:List ResultVar} {vs:List (Val (std E N))},OW P s rv=some vs→(∃ zs,(rv.mapM (jP a.tmps)).run P w=.ok zs w∧RelVals P n0 β σ s w vs zs)∧∀ n,(Ma s n∧∀ k tv,s.getT k=some tv→n∉tv.v.names)→n∉Bn vs
 | [],vs,h=>by
  simp only [OW] at h;cases h;exact ⟨⟨[],by simp [List.mapM_nil],trivial⟩,fun n _=>by simp [Bn]⟩
 | r::rv,vs,h=>by
  simp only [OW] at h
  split at h
  ·rename_i v l hv hl;cases h;obtain ⟨⟨z,h1,h2⟩,h3⟩:=ACp hs hv;obtain ⟨⟨zs,h4,h5⟩,h6⟩:=cO hs hl;refine ⟨⟨z::zs,?_,h2,h5⟩,fun n hf hm=>?_⟩
   ·simp [List.mapM_cons,Sem.run_bind,h1,h4]
   ·simp only [Bn,List.mem_append] at hm;exact hm.elim (h3 n hf) (h6 n hf)
  ·cases h
def qT:List Value→Value
 | [x]=>x
 | zs=>.tuple zs.toArray
theorem cE (hs:Sim P n0 nt β σ s a w) {fn:Func} {vs:List (Val (std E N))} (h:OW P s fn.results.toList=some vs):∃ z zs,(results fn a.tmps).run P w=.ok z w∧RelVals P n0 β σ s w vs zs∧z=qT zs:=by
 obtain ⟨⟨zs,h1,h2⟩,_⟩:=cO hs h;have:(results fn a.tmps).run P w=.ok (if h:zs.toArray.size=1 then zs.toArray[0] else .tuple zs.toArray) w:=by
  have e:results fn a.tmps=(do let vs ← fn.results.mapM (jP a.tmps);pure (if h:vs.size=1 then vs[0] else .tuple vs)):=by
   unfold results;congr 1
  rw [e,Array.mapM_eq_mapM_toList,map_eq_pure_bind];simp only [Sem.run_bind,h1,Result.andThen_ok,Sem.run_pure]
 refine ⟨_,zs,this,h2,?_⟩
 match zs with
 | []=>simp [qT]
 | [x]=>simp [qT]
 | x::y::r=>simp [qT]
theorem mQ {vs:List (Val (std E N))} {zs:List Value} {z:Value} (h:RelVals P n0 β σ s w vs zs) (hz:z=qT zs):RelAV P n0 β σ s w (LH vs) z:=by
 subst hz
 match vs,zs,h with
 | [],[],h=>exact ⟨#[],rfl,trivial⟩
 | [v],[x],h=>exact h.1
 | v::v2::vs,x::y::zs,h=>exact ⟨_,rfl,h⟩
 | [_],x::y::zs,h=>exact h.2.elim
 | _::_::_,[_],h=>exact h.2.elim
theorem km {vs:List (Val (std E N))} {n:Nat} (h:n∉Bn vs):n∉(LH vs).names:=by
 match vs,h with
 | [],h=>exact h
 | [v],h=>intro hm;exact h (by simp only [Bn,List.append_nil];exact hm)
 | v::v2::vs,h=>exact h
theorem Rv:∀ {args:List (AV (std E N))} {i:Nat} {t:TM (TV (std E N))} {n:Nat} {tv:TV (std E N)},DG (Bu i args t) n=some tv→DG t n=some tv∨(i≤n∧∃ v,args[n - i]?=some v∧tv=⟨[],v⟩)
 | [],i,t,n,tv,h=>.inl h
 | v::args,i,t,n,tv,h=>by
  simp only [Bu] at h
  rcases Rv h with h | ⟨h1,u,h2,h3⟩
  ·rw [EB] at h
   split at h
   ·rename_i hn;cases h;exact .inr ⟨by omega,v,by rw [hn.1];simp,rfl⟩
   ·exact .inl h
  ·refine .inr ⟨by omega,u,?_,h3⟩;rw [show n - i=(n - (i+1))+1 by omega];simpa using h2
theorem RelArgs.len:∀ {xs:List (AV (std E N))} {vs:List Value},RelArgs P n0 β σ s w xs vs→xs.length=vs.length
 | [],[],_=>rfl
 | _::_,_::_,h=>by simp [RelArgs.len h.2]
 | [],_::_,h=>h.elim
 | _::_,[],h=>h.elim
theorem RelArgs.get:∀ {xs:List (AV (std E N))} {vs:List Value},RelArgs P n0 β σ s w xs vs→∀ {i:Nat} {x:AV (std E N)},xs[i]?=some x→∃ v,vs[i]?=some v∧RelAV P n0 β σ s w x v
 | [],[],_,i,x,h=>by simp at h
 | y::xs,v::vs,h,i,x,hx=>by
  cases i with
  | zero=>simp at hx;subst hx;exact ⟨v,rfl,h.1⟩
  | succ i=>obtain ⟨u,h1,h2⟩:=RelArgs.get h.2 (i:=i) (by simpa using hx);exact ⟨u,by simpa using h1,h2⟩
 | [],_::_,h,_,_,_=>h.elim
 | _::_,[],h,_,_,_=>h.elim
def Fm (nt:Nat) (vals:List Value):Act:={ tmps:=vals.toArray++Array.replicate (nt - vals.toArray.size) undef,defers:=[] }
theorem fe {nt:Nat} {vals:List Value}:nt≤(Fm nt vals).tmps.size:=by
 simp [Fm];omega
theorem ADK (hn0 : n0.n ≤ w.heap.size) (m : Mem P n0 β σ s w) (hkp : Kept P β σ s w) {args : List (AV (std E N))} {vals : List Value} (hr : RelArgs P n0 β σ s w args vals) {nt : Nat} :
    Sim P n0 (Fm nt vals).tmps.size β σ { s with tm:=Bu 0 args .e } (Fm nt vals) w:=by
  have sub:Sub s ({ s with tm:=Bu 0 args .e }:St0 E N):=Sub.of_same (fun _=>rfl) (fun _=>rfl);refine ⟨hn0,rfl,fun n tv hn=>?_,sub.mem m,hkp.ext (sub.ext P (fun _=>False) β σ w)⟩;have hn:DG (Bu 0 args .e) n=some tv:=hn
  rcases Rv hn with h | ⟨_,v,h1,h2⟩
  · rw [ZE] at h;cases h
  · subst h2;rw [Nat.sub_zero] at h1;obtain ⟨z,h3,h4⟩:=hr.get h1;refine .inl ⟨fun n b hm=>by simp at hm,?_⟩;have:(Fm nt vals).tmps.getD n undef=z:=by
      obtain ⟨hlt,hz⟩:=List.getElem?_eq_some_iff.1 h3;simp only [Fm,Array.getD_eq_getD_getElem?];rw [Array.getElem?_append_left (by simpa using hlt)];simp [h3]
    rw [this];exact (sub.ext P (fun _=>False) β σ w).relAV (fun _ _ h=>h) h4
theorem wf0 (hf:∀ n,s.st≤n→Ma s n) {args:List (AV (std E N))} (ha:∀ x∈args,∀ n∈x.names,n<s.st):WF ({ s with tm:=Bu 0 args .e }:St0 E N):=by
 have get:∀ (k:Nat) (tv:TV (std E N)),({ s with tm:=Bu 0 args .e }:St0 E N).getT k=some tv→∃ v∈args,tv=⟨[],v⟩:=fun k tv hk=>by
  have hk:DG (Bu 0 args .e) k=some tv:=hk
  rcases Rv hk with h | ⟨_,v,h1,h2⟩
  ·rw [ZE] at h;cases h
  ·exact ⟨v,List.mem_of_getElem? h1,h2⟩
 refine ⟨fun n hn=>⟨hf n hn,fun k tv hk hm=>?_⟩,fun n tv hn=>?_⟩
 ·obtain ⟨v,h1,h2⟩:=get k tv hk;subst h2;have:=ha v h1 n hm;have hn:s.st≤n:=hn;omega
 ·obtain ⟨v,h1,h2⟩:=get n tv hn;rw [h2]
theorem RelCs.app:∀ {xs ys:List (AC0 E N)} {us vs:List Value},RelCs P n0 β σ s w xs us→RelCs P n0 β σ s w ys vs→RelCs P n0 β σ s w (xs++ys) (us++vs)
 | [],_,[],_,_,h=>h
 | x::xs,_,u::us,_,h,h'=>⟨h.1,RelCs.app h.2 h'⟩
 | [],_,_::_,_,h,_=>h.elim
 | _::_,_,[],_,h,_=>h.elim
theorem RelVals.flat:∀ {vs:List (Val (std E N))} {zs:List Value},RelVals P n0 β σ s w vs zs→RelCs P n0 β σ s w ((vs.map (·.cs)).flatten) ((zs.map fun z=>z.cells.toList).flatten)
 | [],[],_=>trivial
 | v::vs,z::zs,h=>RelCs.app h.1.1 (RelVals.flat h.2)
 | [],_::_,h=>h.elim
 | _::_,[],h=>h.elim
theorem ga:∀ {ts:List TypeId} {cs:List (AC0 E N)},Ac P ts cs=true→cs.length=ts.length
 | [],[],_=>rfl
 | t::ts,c::cs,h=>by
  simp only [Ac] at h
  split at h
  ·simp [ga h]
  ·cases h
 | [],_::_,h=>by simp [Ac] at h
 | _::_,[],h=>by simp [Ac] at h
theorem Vc {S : St0 E N} {β2 : Nat → Option Nat} {σ2 : Nat → Option (Nat × Nat)} : ∀ {ts : List TypeId} {vs : List (Val (std E N))} {zs : List Value} {xs : List (AC0 E N)} {vs' : List (Val (std E N))}, O3 P ts vs = true → RelVals P n0 β σ s w vs zs →
    RelCs P n0 β2 σ2 S w xs ((zs.map fun z=>z.cells.toList).flatten)→Ia P ts xs=some vs'→RelVals P n0 β2 σ2 S w vs' zs∧∀ n∈Bn vs',n∈AJ xs
  | [],[],[],xs,vs',_,_,_,h=>by
    simp only [Ia] at h;cases h;exact ⟨trivial,fun n hn=>by simp [Bn] at hn⟩
  | t::ts,v::vs,z::zs,xs,vs',hr,hv,hx,h=>by
    simp only [O3,zzk] at hr;simp only [Ia] at h;cases hl:AU P t with
    | none=>rw [hl] at h;cases h
    | some l =>
      rw [hl] at h hr;simp only [zzk,beq_iff_eq] at h hr
      split at h
      · cases h
      rename_i r hrest;cases h;have hlen:z.cells.toList.length=l.length:=by rw [← RelCs.length hv.1.1];exact ga hr.1.2
      have hx':RelCs P n0 β2 σ2 S w xs (z.cells.toList++(zs.map fun z=>z.cells.toList).flatten):=hx;have h1:=RelCs.take l.length hx';have h2:=RelCs.drop l.length hx';rw [← hlen,List.take_left] at h1;rw [← hlen,List.drop_left] at h2;rw [hlen] at h1 h2;obtain ⟨h3,h4⟩:=Vc hr.2 hv.2 h2 hrest;refine ⟨⟨⟨h1,?_⟩,h3⟩,fun n hn=>?_⟩
      · have:=hv.1.2;rw [hr.1.1] at this;exact this
      · simp only [Bn,List.mem_append] at hn
        rcases hn with hn | hn
        · obtain ⟨c,hc,hm⟩:=BP.1 hn;exact BP.2 ⟨c,List.mem_of_mem_take hc,hm⟩
        · obtain ⟨c,hc,hm⟩:=BP.1 (h4 n hn);exact BP.2 ⟨c,List.mem_of_mem_drop hc,hm⟩
  | [],_::_,_,_,_,hr,_,_,_=>by simp [O3] at hr
  | _::_,[],_,_,_,hr,_,_,_=>by simp [O3] at hr
  | _,[],_::_,_,_,_,hv,_,_=>hv.elim
  | _,_::_,[],_,_,_,hv,_,_=>hv.elim
theorem mC:∀ {sl:List Slot} (cv:List PV) (j q:Nat) (u:St0 E N) (t:TM (TV (std E N))),(∀ x∈sl,∃ b c,x=Slot.b b c)→Bk (O:=std E N) cv j q sl { u with tm:=t }={ Bk (O:=std E N) cv j q sl u with tm:=t }
 | [],cv,j,q,u,t,_=>rfl
 | x::sl,cv,j,q,u,t,h=>by
  obtain ⟨b,c,rfl⟩:=h x zzm;rw [bm,bm];exact mC cv _ _ { u with bx:=Py u.bx b (some { cs:=(AP E N cv j q c).1,dirty:=true }),hp:=(AP E N cv j q c).2++u.hp } t (fun y hy=>h y (zzn _ hy))
theorem ACf {R:Run E N} (hR:yS P R):vZ P (qs (O:=std E N) P cfg R):=by
  intro f args s k r h n0 β σ w vals hn0 m hkp hf ha hr;unfold qs at h;cases hfn:P.funcs[f]? with
  | none=>rw [hfn] at h;cases h
  | some fn =>
    rw [hfn] at h;simp only at h;cases hb:fn.body with
    | none=>rw [hb] at h;cases h
    | some body =>
      rw [hb] at h;simp only at h
      split at h
      · cases h
      rename_i htm;have htm':=Rq (fe (nt:=fn.ntmps) (vals:=vals)) htm;refine calls_of_wp hfn hb ?_;have hs1:=ADK (nt:=fn.ntmps) hn0 m hkp hr;have wf1:=wf0 hf ha;have subT:∀ (u:St0 E N) (t:TM (TV (std E N))),Sub u ({ u with tm:=t }:St0 E N):=fun u t=>Sub.of_same (fun _=>rfl) (fun _=>rfl)
      have subs1:Sub s ({ s with tm:=Bu 0 args .e }:St0 E N):=subT _ _
      split at h
      · refine hR n0 _ body htm' _ _ _ _ r β σ (Fm fn.ntmps vals) w _ h hs1 wf1 (fun ex s' β' σ' a' w' hk mx hmx hp wf' hle=>?_)
        split at hk
        case h_2=>cases hk
        rename_i vs hex hvs;obtain ⟨z,zs,h1,h2,h3⟩:=cE hp.sim hvs;obtain ⟨_,h4⟩:=cO hp.sim hvs;have sub2:Sub s' ({ s' with tm:=s.tm }:St0 E N):=subT _ _;have hfin:∃ (av:AV (std E N)) (s'':St0 E N) (β'':Nat→Option Nat) (σ'':Nat→Option (Nat×Nat)),k av s''=some r∧s''.tm=s.tm∧s.st≤s''.st∧Mem P n0 β'' σ'' s'' w'∧Ext P (fun n=>s.st≤n) β σ s w β'' σ'' s'' w' ∧
          (∀ n e,s''.getB n=some e→e.dirty=false→s.getB n=some e)∧(∀ n e,s''.getH n=some e→e.dirty=false→s.getH n=some e) ∧
          RelAV P n0 β'' σ'' s'' w' av z∧∀ n,s''.st≤n→Ma s'' n∧n∉av.names:=by
          refine ⟨LH vs,_,β',σ',hk,rfl,hle,sub2.mem hp.sim.M,(((subs1.ext P (fun _=>False) β σ w).trans hp.ext).trans (sub2.ext P (fun _=>False) β' σ' w')).weaken (fun n h=>?_),hp.cleanB,hp.cleanH,(sub2.ext P (fun _=>False) β' σ' w').relAV (fun _ _ h=>h) (mQ h2 h3),fun n hn=>?_⟩
          · rcases h with (h | h) | h
            · exact h.elim
            · exact h
            · exact h.elim
          · have:=wf'.fresh n hn;exact ⟨this.1,km (h4 n this)⟩
        have hdef:a'.defers=[]:=hp.defers;cases ex with
        | nrm=>exact ⟨hdef,z,h1,hfin⟩
        | ret=>exact ⟨hdef,z,h1,hfin⟩
        | ext id=>simp [Wx] at hex
      · split at h
        case h_2=>cases h
        rename_i sl rs hsl hrs;obtain ⟨c0,h1,h2⟩:=Option.bind_eq_some_iff.1 h
        split at h2
        · cases h2
        rename_i vs' hvs';have hvs':Ia P fn.resultTypes.toList (AP E N c0 0 s.st rs).1=some vs':=hvs';generalize hm:xH (an P body)=mm at *
        unfold xH at hm;have hmm:∀ ex mx,Wx ex=false→(an P body).at ex=some mx→mx.le mm:=fun ex mx he hx=>by
          cases ex with
          | nrm =>
            obtain ⟨m2,q1,q2⟩:=Wide.orL (p:=(an P body).ret) ⟨mx,hx,Ms.le_refl _⟩;have q1:cQ (an P body).nrm (an P body).ret=some m2:=q1;rw [q1] at hm;subst hm;exact q2
          | ret =>
            obtain ⟨m2,q1,q2⟩:=Wide.orR (o:=(an P body).nrm) ⟨mx,hx,Ms.le_refl _⟩;have q1:cQ (an P body).nrm (an P body).ret=some m2:=q1;rw [q1] at hm;subst hm;exact q2
          | ext id=>simp [Wx] at he
        refine hR n0 _ body htm' _ _ _ _ c0 β σ (Fm fn.ntmps vals) w _ h1 hs1.cleaned wf1.cleaned (fun ex s' β' σ' a' w' hk mx hmx hp wf' hle=>?_)
        split at hk
        · cases hk
        · cases hk
        rename_i vs hex hvs
        split at hk
        case h_2=>cases hk
        case h_3=>cases hk
        rename_i ls used hck hchk henc1
        split at hk
        case h_2=>cases hk
        rename_i more henc2;simp only [zzk] at hck;obtain ⟨hres,hcB⟩:=hck;have hc0:c0=(ls++more).map Leaf.pv:=(Option.some.inj hk).symm;have hsi:=Post.since (s:={ s with tm:=Bu 0 args .e }) (hp.wide (fun n=>(hmm ex mx hex hmx n).1));obtain ⟨z,zs,r1,r2,r3⟩:=cE hp.sim hvs;obtain ⟨hslm,hslb⟩:=LB hsl;have hj:=AEQ (s:=s') (a:=a') (w:=w') (L:=s.st) (base:={ s with tm:=.e,bx:=QT s (C5 ({ s with tm:=Bu 0 args .e }:St0 E N) mm),hp:=SK s (qj ({ s with tm:=Bu 0 args .e }:St0 E N) mm) }) hp.sim
          (fun n tv hn=>by
            have hn:DG (.e:TM (TV (std E N))) n=some tv:=hn;rw [ZE] at hn;cases hn)
          (fun n e he=>by
            have he':AL (QT s _) n=some e:=he;obtain ⟨g1,g2⟩:=KS.1 he';obtain ⟨e',g3,g4⟩:=aY hcB he';exact ⟨Nat.lt_of_not_le (fun hle=>((hf n hle).1 n e g1).1 rfl),⟨e',g3,hsi.B n e e' g1 g2 g3 g4⟩,fun k hk=>Nat.lt_of_not_le (fun hle=>((hf k hle).1 n e g1).2 hk)⟩)
          (fun n e he=>by
            have he':AL (SK s _) n=some e:=he;obtain ⟨g1,g2⟩:=LS.1 he';obtain ⟨e',g3,g4⟩:=cY hchk he';exact ⟨Nat.lt_of_not_le (fun hle=>(hf n hle).2 n e g1 rfl),e',g3,hp.keptH (s:={ s with tm:=Bu 0 args .e }) g1 g3 g4⟩)
          (rs:=rs) (cs:=(vs.map (·.cs)).flatten) r2.flat (sl:=sl) (fun b c hm=>by
            obtain ⟨_,e,he⟩:=hslm b c hm;exact Nat.lt_of_not_le (fun hle=>((hf b hle).1 b e he).1 rfl))
          henc1 henc2 (cv:=c0) (j:=0) (by rw [hc0];exact S6 (pre:=[]))
        obtain ⟨σ2,S,hS,j1,j2,j3⟩:=hj;obtain ⟨s1,s2⟩:=Vc hres r2 j1 hvs';have hSt:Bk (O:=std E N) c0 rs.length (s.st+(AP E N c0 0 s.st rs).2.length) sl { s with bx:=QT s (C5 ({ s with tm:=Bu 0 args .e }:St0 E N) mm),hp:=(AP E N c0 0 s.st rs).2++SK s (qj ({ s with tm:=Bu 0 args .e }:St0 E N) mm) }={ S with tm:=s.tm }:=by
          rw [hS,Nat.zero_add];exact mC c0 rs.length (s.st+(AP E N c0 0 s.st rs).2.length) { s with tm:=.e,bx:=QT s (C5 ({ s with tm:=Bu 0 args .e }:St0 E N) mm),hp:=(AP E N c0 0 s.st rs).2++SK s (qj ({ s with tm:=Bu 0 args .e }:St0 E N) mm) } s.tm hslb
        have hk2:k (LH vs') { S with tm:=s.tm }=some r:=by rw [← hSt];exact h2
        have sub2:Sub S ({ S with tm:=s.tm }:St0 E N):=subT _ _;have hfin:∃ (av:AV (std E N)) (s'':St0 E N) (β'':Nat→Option Nat) (σ'':Nat→Option (Nat×Nat)),k av s''=some r∧s''.tm=s.tm∧s.st≤s''.st∧Mem P n0 β'' σ'' s'' w'∧Ext P (fun n=>s.st≤n) β σ s w β'' σ'' s'' w' ∧
          (∀ n e,s''.getB n=some e→e.dirty=false→s.getB n=some e)∧(∀ n e,s''.getH n=some e→e.dirty=false→s.getH n=some e) ∧
          RelAV P n0 β'' σ'' s'' w' av z∧∀ n,s''.st≤n→Ma s'' n∧n∉av.names:=by
          refine ⟨LH vs',_,β',σ2,hk2,rfl,j3.st,sub2.mem j3.sim.M,((((subs1.ext P (fun _=>False) β σ w).trans hsi.ext).trans j3.ext).trans (sub2.ext P (fun _=>False) β' σ2 w')).weaken (fun n h=>?_),fun n e he hd=>?_,fun n e he hd=>?_,(sub2.ext P (fun _=>False) β' σ2 w').relAV (fun _ _ h=>h) (mQ s1 r3),fun n hn=>?_⟩
          · rcases h with ((h | h) | h) | h
            · exact h.elim
            · exact h
            · exact h
            · exact h.elim
          · have he':AL (QT s _) n=some e:=j3.cleanB n e he hd;exact (KS.1 he').1
          · have he':AL (SK s _) n=some e:=j3.cleanH n e he hd;exact (LS.1 he').1
          · exact ⟨(j3.wf.fresh n hn).1, km (fun hm => by
              have hn:S.st≤n:=hn;have:=j2 n (s2 n hm);omega)⟩
        have hdef:a'.defers=[]:=hp.defers;cases ex with
        | nrm=>exact ⟨hdef,z,r1,hfin⟩
        | ret=>exact ⟨hdef,z,r1,hfin⟩
        | ext id=>simp [Wx] at hex
theorem vT (hmix:P.follows .mixedOrders=true) (hΓ:∀ ci∈cfg.gam,Bx P E N ci∧Bx P E N { ci with own:=false }):∀ n,yS P (XL (O:=std E N) P cfg n:Run E N)
 | 0=>fun n0 nt c _ light lv s k r β σ a w Q h=>by cases h
 | n+1=>AGg hmix _ (ACf (vT hmix hΓ n)) hΓ
end
section
variable {E:Env} {N:Nat} {P:Program} {cfg:Cfg} {n0 n0':Nz} {nt:Nat} {β β':Nat→Option Nat} {σ σ':Nat→Option (Nat×Nat)} {s s' s2:St0 E N} {a a':Act} {w w':World}
theorem IJ {give:Bool}:∀ {ts:List TypeId} {q:Nat} {ls rest:List Ad} {cs:List (AC0 E N)} {h:List (Nat×HEnt (std E N))},As (O:=std E N) P give q ts ls=some (cs,h,rest)→Row q h∧∀ n∈AJ cs,q≤n∧n<q+h.length
 | [],q,ls,rest,cs,h,he=>by
  simp only [As] at he;cases he;exact ⟨trivial,fun n hn=>by simp [AJ] at hn⟩
 | t::ts,q,[],rest,cs,h,he=>by simp only [As] at he;cases he
 | t::ts,q,l::ls,rest,cs,h,he=>by
  simp only [As] at he
  split at he
  ·obtain ⟨⟨cs1,h1,r1⟩,e1,e2⟩:=zzp.1 he;cases e2;obtain ⟨a1,a2⟩:=IJ e1;exact ⟨a1,fun n hn=>a2 n (by simpa [AJ,AC.names] using hn)⟩
  ·obtain ⟨⟨cs1,h1,r1⟩,e1,e2⟩:=zzp.1 he;cases e2;obtain ⟨a1,a2⟩:=IJ e1;exact ⟨a1,fun n hn=>a2 n (by simpa [AJ,AC.names] using hn)⟩
  ·obtain ⟨⟨cs1,h1,r1⟩,e1,e2⟩:=zzp.1 he;cases e2;obtain ⟨a1,a2⟩:=IJ e1;exact ⟨a1,fun n hn=>a2 n (by simpa [AJ,AC.names] using hn)⟩
  ·cases give with
   | false =>
    obtain ⟨⟨cs1,h1,r1⟩,e1,e2⟩:=zzp.1 he;cases e2;obtain ⟨a1,a2⟩:=IJ e1;exact ⟨a1,fun n hn=>a2 n (by simpa [AJ,AC.names] using hn)⟩
   | true =>
    obtain ⟨⟨cs1,h1,r1⟩,e1,e2⟩:=zzp.1 he;cases e2;obtain ⟨a1,a2⟩:=IJ e1;refine ⟨⟨rfl,a1⟩,fun n hn=>?_⟩;simp only [AJ,AC.names,List.cons_append,List.nil_append,List.mem_cons] at hn;simp only [List.length_cons]
    rcases hn with rfl | hn
    ·omega
    ·have:=a2 n hn;omega
  ·cases he
theorem YM:∀ {ts:List TypeId} {gv:List Bool} {q:Nat} {fns:List Nat} {ls:List Ad} {vs:List (AV (std E N))} {hs:List (Nat×HEnt (std E N))},A6 (O:=std E N) P gv q ts fns ls=some (vs,hs)→Row q hs∧∀ v∈vs,∀ n∈v.names,q≤n∧n<q+hs.length
 | [],gv,q,fns,ls,vs,hs,h=>by
  unfold A6 at h
  split at h
  ·cases h;exact ⟨trivial,fun v hv=>by simp at hv⟩
  ·rename_i hx;cases hx
  ·cases h
 | t::ts,gv,q,fns,ls,vs,hs,h=>by
  unfold A6 at h
  split at h
  ·split at h
   ·obtain ⟨⟨r,h1⟩,e1,e2⟩:=zzp.1 h;cases e2;obtain ⟨a1,a2⟩:=YM e1;refine ⟨a1,fun v hv n hn=>?_⟩
    rcases List.mem_cons.1 hv with rfl | hv
    ·simp [AV.names,one,AJ,AC.names] at hn
    ·exact a2 v hv n hn
   ·cases h
  ·split at h
   ·cases h
   ·rename_i l hl
    split at h
    ·cases h
    ·rename_i cs h1 ls1 hc;obtain ⟨⟨r,h2⟩,e1,e2⟩:=zzp.1 h;cases e2;obtain ⟨a1,a2⟩:=IJ hc;obtain ⟨b1,b2⟩:=YM e1;refine ⟨a1.append b1,fun v hv n hn=>?_⟩;rw [List.length_append]
     rcases List.mem_cons.1 hv with rfl | hv
     ·have:=a2 n hn;omega
     ·have:=b2 v hv n hn;omega
def CZ (P:Program) (own:Nat→Bool) (nw:Bool) (t:TypeId):SlotC:=match AM P t with
 | .int k=>.int k
 | .bool=>.bool
 | .str=>.str
 | .sl e=>match own e with
  | true=>.own e nw
  | false=>.imm e nw
 | _=>.bool
theorem AAO (m : Mem P n0 β σ s w) {own own' : Nat → Bool} {nw : Bool} (ho : ∀ e, own' e = true → own e = true) : ∀ {ts : List TypeId} {cs : List (AC0 E N)} {vals : List Value} {used usedE : List Nat} {ls : List Ad}, EY (O := std E N) s own nw used cs = .ok ls → Ac P ts cs = true → RelCs P n0 β σ s w cs vals → (∀ n ∈ usedE, n ∈ used ∧ ∀ h, s.getH n = some h → h.frozen = false) →
    ∃ u,Lg (O:=std E N) s [] usedE (ts.map (CZ P own' nw)) cs=.ok (ls,u)
  | [],[],vals,used,usedE,ls,h,_,_,_=>by
    simp only [EY] at h;cases h;exact ⟨usedE,rfl⟩
  | t::ts,c::cs,v::vals,used,usedE,ls,h,hk,hr,hu=>by
    simp only [Ac] at hk
    split at hk
    case h_2=>cases hk
    rename_i hk1;have goOk:∀ {l:Ad} {u:List Nat},UN l (EY (O:=std E N) s own nw u cs)=.ok ls→∃ ls2,EY (O:=std E N) s own nw u cs=.ok ls2∧ls=l::ls2:=fun {l u} h=>by
      cases hx:EY (O:=std E N) s own nw u cs with
      | ok ls2=>rw [hx] at h;simp only [UN] at h;cases h;exact ⟨ls2,rfl,rfl⟩
      | error e=>rw [hx] at h;simp only [UN] at h;cases h
    have fin:∀ {l:Ad} {u uE:List Nat} {ls2:List Ad},N4 (O:=std E N) s [] usedE (CZ P own' nw t) c=.ok (l,uE)→EY (O:=std E N) s own nw u cs=.ok ls2→ls=l::ls2→(∀ n∈uE,n∈u∧∀ h,s.getH n=some h→h.frozen=false)→∃ u,Lg (O:=std E N) s [] usedE ((t::ts).map (CZ P own' nw)) (c::cs)=.ok (ls,u):=fun {l u uE ls2} h1 h2 h3 h4=>by
      obtain ⟨u2,h5⟩:=AAO m ho h2 hk hr.2 h4;refine ⟨u2,?_⟩;simp only [List.map_cons,Lg,h1,h5,h3]
    cases c with
    | int k i =>
      simp only [EY] at h;obtain ⟨ls2,h2,h3⟩:=goOk h;cases hl:AM P t<;>rw [hl] at hk1<;>simp [BU] at hk1;refine fin (l:=.int i) (uE:=usedE) ?_ h2 h3 hu;simp [CZ,hl,N4,hk1]
    | bool b =>
      simp only [EY] at h;obtain ⟨ls2,h2,h3⟩:=goOk h;cases hl:AM P t<;>rw [hl] at hk1<;>simp [BU] at hk1;refine fin (l:=.bool b) (uE:=usedE) ?_ h2 h3 hu;simp [CZ,hl,N4]
    | str x =>
      simp only [EY] at h;obtain ⟨ls2,h2,h3⟩:=goOk h;cases hl:AM P t<;>rw [hl] at hk1<;>simp [BU] at hk1;refine fin (l:=.str x) (uE:=usedE) ?_ h2 h3 hu;simp [CZ,hl,N4]
    | nil e =>
      simp only [EY] at h;obtain ⟨ls2,h2,h3⟩:=goOk h;cases hl:AM P t<;>rw [hl] at hk1<;>simp [BU] at hk1;subst hk1;refine fin (l:=.rows []) (uE:=usedE) ?_ h2 h3 hu;simp only [CZ,hl]
      split<;>simp [N4]
    | imm e n l =>
      simp only [EY] at h
      split at h
      case h_2=>cases h
      rename_i hg;obtain ⟨ls2,h2,h3⟩:=goOk h;have hl:AM P t=.sl e:=by
        cases hl:AM P t<;>rw [hl] at hk1<;>simp [BU] at hk1;rw [hk1]
      have hown:own' e=false:=by
        cases ho':own' e with
        | false=>rfl
        | true=>have:=ho e ho';rw [this] at hg;simp at hg
      refine fin (l:=.rows l) (uE:=usedE) ?_ h2 h3 hu;have hg2:(n || !nw)=true:=by simp only [zzk] at hg;exact hg.2
      simp [CZ,hl,N4,hg2,hown]
    | own e id =>
      simp only [EY] at h;cases hh:s.getH id with
      | none=>rw [hh] at h;cases h
      | some en =>
        rw [hh] at h;simp only at h
        split at h
        case h_2=>cases h
        rename_i hg;obtain ⟨ls2,h2,h3⟩:=goOk h;simp only [zzk,Bool.not_eq_true'] at hg;obtain ⟨⟨g1,g2⟩,g3⟩:=hg;have hl:AM P t=.sl e:=by
          cases hl:AM P t<;>rw [hl] at hk1<;>simp [BU] at hk1;rw [hk1]
        have he:=(hr.1.2 en hh).1;have hm:Cx id usedE=false:=by
          cases hx:Cx id usedE with
          | false=>rfl
          | true =>
            obtain ⟨u1,u2⟩:=hu id (Cz.1 hx);have u3:=Cz.2 u1;have u4:=u2 en hh;rw [u3,u4] at g2;cases g2
        cases ho':own' e with
        | true =>
          have hoe:=ho e ho';have g1':en.frozen=false:=by simpa [hoe] using g1
          refine fin (l:=.rows en.l) (uE:=id::usedE) ?_ h2 h3 (fun n hn=>by
            rcases List.mem_cons.1 hn with rfl | hn
            · exact ⟨zzm,fun h' hh'=>by rw [hh] at hh';cases hh';exact g1'⟩
            · exact ⟨zzn _ (hu n hn).1,(hu n hn).2⟩)
          simp [CZ,hl,N4,hh,he,g1',hm,Cx,g3,ho']
        | false =>
          refine fin (l:=.rows en.l) (uE:=match en.frozen with | true=>usedE | false=>id::usedE) ?_ h2 h3 (fun n hn=>by
            cases hz:en.frozen with
            | true=>rw [hz] at hn;exact ⟨zzn _ (hu n hn).1,(hu n hn).2⟩
            | false =>
              rw [hz] at hn
              rcases List.mem_cons.1 hn with rfl | hn
              · exact ⟨zzm,fun h' hh'=>by rw [hh] at hh';cases hh';exact hz⟩
              · exact ⟨zzn _ (hu n hn).1,(hu n hn).2⟩)
          simp [CZ,hl,N4,hh,he,hm,Cx,g3,ho'];cases en.frozen<;>rfl
    | _=>simp only [EY] at h;cases h
  | [],_::_,_,_,_,_,_,hk,_,_=>by simp [Ac] at hk
  | _::_,[],_,_,_,_,_,hk,_,_=>by simp [Ac] at hk
  | _,_::_,[],_,_,_,_,_,hr,_=>hr.elim
theorem Va (cv:List PV):∀ (x y:List SlotC) (j q:Nat),AP E N cv j q (x++y)=((AP E N cv j q x).1++(AP E N cv (j+x.length) (q+(AP E N cv j q x).2.length) y).1,(AP E N cv j q x).2++(AP E N cv (j+x.length) (q+(AP E N cv j q x).2.length) y).2)
 | [],y,j,q=>rfl
 | c::x,y,j,q=>by
  have e:∀ z,AP E N cv j q (c::z)=((B0 E N cv j q c).1::(AP E N cv (j+1) (q+(B0 E N cv j q c).2.length) z).1,(B0 E N cv j q c).2++(AP E N cv (j+1) (q+(B0 E N cv j q c).2.length) z).2):=fun z=>rfl
  rw [List.cons_append,e,e,Va cv x y];simp only [List.cons_append,List.length_cons,List.length_append,List.append_assoc];rw [show j+1+x.length=j+(x.length+1) by omega,Nat.add_assoc]
theorem kS {own:Nat→Bool} {nw:Bool} {cv:List PV}:∀ {ts:List TypeId} {cs:List (AC0 E N)} {j q:Nat},Ac P ts cs=true→Az (O:=std E N) P own nw cv j q ts=some (AP E N cv j q (ts.map (CZ P own nw)))
 | [],[],j,q,_=>rfl
 | t::ts,c::cs,j,q,h=>by
  simp only [Ac] at h
  split at h
  case h_2=>cases h
  rename_i hk;have ih:=fun j q=>kS (own:=own) (nw:=nw) (cv:=cv) (j:=j) (q:=q) h
  cases hl:AM P t<;>rw [hl] at hk<;>(try (cases c<;>simp [BU] at hk;done))
  ·simp only [Az,hl,ih];simp [AP,NN,Jo,CZ,hl]
  ·simp only [Az,hl,ih];simp [AP,NN,Jo,CZ,hl]
  ·simp only [Az,hl,ih];simp [AP,NN,Jo,CZ,hl]
  ·rename_i e;cases ho':own e with
   | true=>simp only [Az,hl,ih,ho'];simp [AP,NN,Jo,CZ,hl,ho']
   | false=>simp only [Az,hl,ih,ho'];simp [AP,NN,Jo,CZ,hl,ho']
 | [],_::_,_,_,h=>by simp [Ac] at h
 | _::_,[],_,_,h=>by simp [Ac] at h
theorem tQ {cv:List PV}:∀ {x:List SlotC} {j q:Nat},(AP E N cv j q x).1.length=x.length
 | [],j,q=>rfl
 | c::x,j,q=>by
  have e:AP E N cv j q (c::x)=((B0 E N cv j q c).1::(AP E N cv (j+1) (q+(B0 E N cv j q c).2.length) x).1,(B0 E N cv j q c).2++(AP E N cv (j+1) (q+(B0 E N cv j q c).2.length) x).2):=rfl;rw [e];simp [tQ (x:=x)]
theorem kO {own : Nat → Bool} {nw : Bool} {cv : List PV} : ∀ {ts : List TypeId} {vs : List (Val (std E N))} {j q : Nat}, O3 P ts vs = true → ∃ (l : List TypeId) (vs' : List (Val (std E N))), Ku P ts = some l ∧ Ac P l ((vs.map (·.cs)).flatten) = true ∧
    BR (O:=std E N) P own nw cv j q ts=some (vs',(AP E N cv j q (l.map (CZ P own nw))).2)∧Ia P ts (AP E N cv j q (l.map (CZ P own nw))).1=some vs'
  | [],[],j,q,_=>⟨[],[],rfl,rfl,rfl,rfl⟩
  | t::ts,v::vs,j,q,h=>by
    simp only [O3,zzk] at h;cases hl:AU P t with
    | none=>rw [hl] at h;simp at h
    | some l =>
      rw [hl] at h;simp only [zzk,beq_iff_eq] at h;obtain ⟨l2,vs',h1,h2,h3,h4⟩:=kO (own:=own) (nw:=nw) (cv:=cv) (j:=j+l.length) (q:=q+(AP E N cv j q (l.map (CZ P own nw))).2.length) h.2;have hb:=kS (own:=own) (nw:=nw) (cv:=cv) (j:=j) (q:=q) h.1.2;refine ⟨l++l2,{ agg:=AW P t,cs:=(AP E N cv j q (l.map (CZ P own nw))).1 }::vs',by simp [Ku,hl,h1],?_,?_,?_⟩
      · have : ∀ {a b : List TypeId} {x y : List (AC0 E N)}, Ac P a x = true → Ac P b y = true → Ac P (a ++ b) (x ++ y) = true := fun {a b x y} hx hy => by
          induction a generalizing x with
          | nil=>cases x with
            | nil=>exact hy
            | cons _ _=>simp [Ac] at hx
          | cons t a ih=>cases x with
            | nil=>simp [Ac] at hx
            | cons c x =>
              simp only [Ac] at hx
              split at hx
              · rename_i hk;simp only [List.cons_append,Ac,hk];exact ih hx
              · cases hx
        exact this h.1.2 h2
      · simp only [BR,hl];rw [hb,List.map_append,Va,List.length_map];simp only [h3]
      · simp only [Ia,hl];rw [List.map_append,Va,List.length_map];have hlen:(AP E N cv j q (l.map (CZ P own nw))).1.length=l.length:=by rw [tQ,List.length_map]
        simp only;rw [← hlen,List.drop_left,List.take_left,hlen,h4]
  | [],_::_,_,_,h=>by simp [O3] at h
  | _::_,[],_,_,h=>by simp [O3] at h
theorem v8 {cv:List PV} {S S2:St0 E N} (hH:∀ n,S2.getH n=S.getH n) (hst:∀ nw b,StB n0 β σ S nw b→StB n0 noB σ S2 nw b):∀ {x:List SlotC} {j q:Nat} {vals:List Value},RelCs P n0 β σ S w (AP E N cv j q x).1 vals→RelCs P n0 noB σ S2 w (AP E N cv j q x).1 vals
 | [],j,q,[],h=>trivial
 | [],j,q,_::_,h=>h.elim
 | c::x,j,q,[],h=>h.elim
 | c::x,j,q,v::vals,h=>by
  have e:AP E N cv j q (c::x)=((B0 E N cv j q c).1::(AP E N cv (j+1) (q+(B0 E N cv j q c).2.length) x).1,(B0 E N cv j q c).2++(AP E N cv (j+1) (q+(B0 E N cv j q c).2.length) x).2):=rfl;rw [e] at h ⊢;refine ⟨?_,v8 hH hst h.2⟩;have h1:=h.1;cases c with
  | int k=>exact h1
  | bool=>exact h1
  | str=>exact h1
  | own e nw =>
   obtain ⟨h2,h3⟩:=h1;exact ⟨h2,fun en hen=>h3 en (by rw [← hH];exact hen)⟩
  | imm e nw=>obtain ⟨t,ht,hr⟩:=h1;exact ⟨t,ht,hr.st (hst nw)⟩
theorem AAL {own:Nat→Bool} {n:Nat}:∀ {l:List (Nat×HEnt (std E N))} {h':HEnt (std E N)},AL (l.map fun (n,h)=>(n,{ h with frozen:=h.frozen || !own h.e })) n=some h'→∃ h,AL l n=some h∧h'={ h with frozen:=h.frozen || !own h.e }
 | [],h',h=>by cases h
 | (j,a)::l,h',h=>by
  show ∃ h,(match Nat.beq j n with | true=>some a | false=>AL l n)=some h∧_;change (match Nat.beq j n with | true=>some { a with frozen:=a.frozen || !own a.e } | false=>AL (l.map fun (n,h)=>(n,{ h with frozen:=h.frozen || !own h.e })) n)=some h' at h;cases hb:Nat.beq j n with
  | true=>rw [hb] at h;exact ⟨a,rfl,(Option.some.inj h).symm⟩
  | false=>rw [hb] at h;exact AAL h
theorem Sub.frz (s:St0 E N) (own:Nat→Bool):Sub s (ABh own s) :=
  ⟨fun n e h => ⟨e, h, rfl⟩, fun n h' h => by
      obtain ⟨h0,a,b⟩:=AAL h;exact ⟨h0,a,by rw [b],by rw [b],by rw [b],fun hf=>by rw [b] at hf;simp only [Bool.or_eq_false_iff] at hf;exact hf.1⟩⟩
theorem ADP {own : Nat → Bool} {ci : CI} (ho : ∀ e, ci.ow e = true → own e = true) {rs : List PV} {fn : Func} {hs : List (Nat × HEnt (std E N))} {ex : Ex} (hsim : Sim P n0 nt β' σ' s' a' w') (hdef : a'.defers = [])
    (x1:Ext P (fun _=>True) noB σ (AR hs) w β' σ' s' w') (hk:ABz (O:=std E N) P own ci.nw fn ex s'=some rs):bodyPost P fn (Ret (E:=E) (N:=N) P ci n0 σ (AR hs) w fn rs) (pS ex) a' w':=by
  unfold ABz at hk
  split at hk
  · cases hk
  · cases hk
  rename_i vs' hex hvs
  split at hk
  case h_2=>cases hk
  case h_3=>cases hk
  rename_i ls' hres hout;have hrs:rs=ls'.map Leaf.pv:=(Option.some.inj hk).symm;obtain ⟨z,zs,r1,r2,r3⟩:=cE hsim hvs;have hfin:Ret (E:=E) (N:=N) P ci n0 σ (AR hs) w fn rs (.returned z) w':=by
    refine ⟨x1.os,x1.tape,x1.output,x1.size,fun b hb hm=>x1.frame b hb hm,fun q=>?_⟩;obtain ⟨l,vs2,b1,b2,b3,b4⟩:=kO (own:=ci.ow) (nw:=ci.nw) (cv:=rs) (j:=0) (q:=q) hres;obtain ⟨u,henc⟩:=AAO hsim.M ho (usedE:=[]) hout b2 r2.flat (fun n hn=>by simp at hn);have hj:=AEQ (s:=s') (a:=a') (w:=w') (L:=q) (base:={ tm:=.e,bx:=[],hp:=[],st:=q }) hsim
      (fun n tv hn=>by
        have hn:DG (.e:TM (TV (std E N))) n=some tv:=hn;rw [ZE] at hn;cases hn)
      (fun n e he=>by cases he) (fun n e he=>by cases he)
      (rs:=l.map (CZ P ci.ow ci.nw)) r2.flat (sl:=[]) (fun b c hm=>by simp at hm) henc (ls2:=[]) rfl (cv:=rs) (j:=0) (by rw [hrs,List.append_nil];exact S6 (pre:=[]))
    obtain ⟨σ2,S,hS,j1,j2,j3⟩:=hj;have hSH:∀ n,S.getH n=AL (AP E N rs 0 q (l.map (CZ P ci.ow ci.nw))).2 n:=fun n=>by
      rw [hS];show AL (_++[]) n=_;rw [List.append_nil]
    have hSB:∀ n,S.getB n=none:=fun n=>by rw [hS];rfl
    generalize hD:(AP E N rs 0 q (l.map (CZ P ci.ow ci.nw))).2=D at *
    have hH2:∀ n,(AR D).getH n=S.getH n:=fun n=>(hSH n).symm
    have inM:∀ b,InM noB σ2 (AR D) b→InM β' σ2 S b:=fun b hb=>by
      rcases hb with ⟨n,e,h1,_⟩ | ⟨n,h,cap,h1,h2,h3⟩
      · cases h1
      · exact .inr ⟨n,h,cap,by rw [← hH2];exact h1,h2,h3⟩
    have hst:∀ nw b,StB n0 β' σ2 S nw b→StB n0 noB σ2 (AR D) nw b:=fun nw b hb=>⟨fun hm=>hb.1 (inM b hm),hb.2⟩
    refine ⟨σ2,vs2,D,b3,⟨fun n e he=>(by cases he),fun n h hh=>?_,fun b b' e e' blk he=>(by cases he),fun n n' h h' blk cap cap' hh hh'=>?_,fun b e n h blk cap he=>(by cases he)⟩,?_,fun b hb=>?_⟩
    · rw [hH2] at hh;exact (j3.sim.M.H n h hh).view rfl rfl rfl (fun _ _ _ ho=>ho) (fun b hb=>hst _ b hb)
    · rw [hH2] at hh hh';exact j3.sim.M.uH n n' h h' blk cap cap' hh hh'
    · have j1':=v8 (S2:=AR D) hH2 hst j1;exact mQ (Vc hres r2 j1' b4).1 r3
    · rcases j3.ext.mem b (inM b hb) with h | h
      · exact x1.mem b h
      · exact .inr (Nat.le_trans x1.size h)
  cases ex with
  | nrm=>exact ⟨hdef,z,r1,hfin⟩
  | ret=>exact ⟨hdef,z,r1,hfin⟩
  | ext id=>simp [Wx] at hex
theorem wR {own : Nat → Bool} {ci : CI} (ho : ∀ e, ci.ow e = true → own e = true) {rs : List PV} {fn : Func} {hs : List (Nat × HEnt (std E N))} {ex : Ex} (hsim : Sim P n0 nt β' σ' s' a' w') (hdef : a'.defers = [])
    (x1:Ext P (fun _=>True) noB σ (AR hs) w β' σ' s' w') (hk:sJ (O:=std E N) P own ci.nw fn ex s'=some rs):bodyPost P fn (Ret (E:=E) (N:=N) P ci n0 σ (AR hs) w fn rs) (pS ex) a' w':=by
  have sb:=Sub.frz s' own;have xb:=sb.ext P (fun _=>False) β' σ' w';refine ADP ho (s':=ABh own s') ⟨hsim.n0le,hsim.size,fun n tv hn=>?_,sb.mem hsim.M,hsim.kept.ext xb⟩ hdef ((x1.trans xb).weaken fun _ _=>trivial) hk;have hn':s'.getT n=some tv:=hn
  rcases hsim.T n tv hn' with ⟨h1,h2⟩ | h1
  · exact .inl ⟨h1,xb.relAV (fun _ _ h=>h) h2⟩
  · exact .inr h1
theorem yP (hmix : P.follows .mixedOrders = true) (hΓ : ∀ ci ∈ cfg.gam, Bx P E N ci ∧ Bx P E N { ci with own := false }) {own : Nat → Bool} {ci : CI} (ho : ∀ e, ci.ow e = true → own e = true) {ls rs : List PV}
    (h:XF (O:=std E N) P cfg own ci.nw ci.gives ci.f ci.fns (ls.map PV.leaf)=some rs) {fn:Func} (hfn:P.funcs[ci.f]?=some fn) {vs:List (AV (std E N))} {hs:List (Nat×HEnt (std E N))} (hv:A6 (O:=std E N) P ci.gives 1 fn.params.toList ci.fns (ls.map PV.leaf)=some (vs,hs))
    (hn0:n0.n=w.heap.size) (m:Mem P n0 noB σ (AR hs) w) (hkp:Kept P noB σ (AR hs) w) {args:List Value} (hr:RelArgs P n0 noB σ (AR hs) w vs args):Calls P ci.f args.toArray w (Ret (E:=E) (N:=N) P ci n0 σ (AR hs) w fn rs):=by
  unfold XF at h;rw [hfn] at h;simp only at h
  split at h
  · rename_i body vs' hs' hb hv';rw [hv] at hv';cases hv'
    split at h
    · cases h
    rename_i htm;obtain ⟨row,hnames⟩:=YM hv
    let sx:St0 E N:={ tm:=.e,bx:=[],hp:=hs,st:=1+hs.length }
    have subx:Sub (AR hs) sx:=Sub.of_same (fun _=>rfl) (fun _=>rfl);have mx:Mem P n0 noB σ sx w:=subx.mem m;have hrx:RelArgs P n0 noB σ sx w vs args:=(subx.ext P (fun _=>False) noB σ w).relArgs hr;have hfx:∀ n,sx.st≤n→Ma sx n:=fun n hn=>⟨fun k e he=>(by cases he),fun k e he=>(by
      have:=row.mem _ (row.get he);have hn:1+hs.length≤n:=hn;simp at this;omega)⟩
    refine calls_of_wp hfn hb ?_;have hs1:=ADK (s:=sx) (nt:=fn.ntmps) (Nat.le_of_eq hn0) mx (hkp.ext (subx.ext P (fun _=>False) noB σ w)) hrx;have wf1:=wf0 (s:=sx) hfx (args:=vs) (fun x hx n hn=>(hnames x hx n hn).2);have htm':=Rq (fe (nt:=fn.ntmps) (vals:=args)) htm;have subs1:Sub sx ({ sx with tm:=Bu 0 vs .e }:St0 E N):=Sub.of_same (fun _=>rfl) (fun _=>rfl);refine vT hmix hΓ 6 n0 _ body htm' _ _ _ _ rs noB σ (Fm fn.ntmps args) w _ h hs1 wf1 (fun ex s' β' σ' a' w' hk mm hmm hp wf' hle=>?_);have x1:Ext P (fun _=>True) noB σ (AR hs) w β' σ' s' w':=(((subx.ext P (fun _=>False) noB σ w).trans (subs1.ext P (fun _=>False) noB σ w)).trans hp.ext).weaken (fun _ _=>trivial);exact wR ho hp.sim hp.defers x1 hk
  · cases h
  · cases h
end
section
variable {E E':Env} {N N':Nat} {P:Program} {n0:Nz} {σ:Nat→Option (Nat×Nat)} {w:World}
def AC.re:AC (std E N)→AC (std E' N')
 | .int k i=>.int k i
 | .bool b=>.bool b
 | .str s=>.str s
 | .nil e=>.nil e
 | .imm e nw l=>.imm e nw l
 | .own e id=>.own e id
 | .ptr b off=>.ptr b off
 | .aptr b off n sz i inner=>.aptr b off n sz i inner
 | .eptr id i off=>.eptr id i off
 | .iptr e nw l i off=>.iptr e nw l i off
 | .fn f caps=>.fn f caps
 | .nilptr=>.nilptr
 | .tail e id i=>.tail e id i
 | .mp e id=>.mp e id
def Val.re (v:Val (std E N)):Val (std E' N'):={ agg:=v.agg,cs:=v.cs.map AC.re }
def AV.re:AV (std E N)→AV (std E' N')
 | .val v=>.val v.re
 | .tup vs=>.tup (vs.map Val.re)
def HEnt.re (h:HEnt (std E N)):HEnt (std E' N'):={ e:=h.e,frozen:=h.frozen,nw:=h.nw,l:=h.l,dirty:=h.dirty }
def reH (hs:List (Nat×HEnt (std E N))):List (Nat×HEnt (std E' N')):=hs.map fun (n,h)=>(n,h.re)
variable {hs:List (Nat×HEnt (std E N))}
theorem AAB (n:Nat):(AR (reH hs:List (Nat×HEnt (std E' N')))).getH n=((AR hs).getH n).map HEnt.re:=Xe HEnt.re hs n
theorem ET {n:Nat} {h':HEnt (std E' N')} (h:(AR (reH hs:List (Nat×HEnt (std E' N')))).getH n=some h'):∃ h0,(AR hs).getH n=some h0∧h'=h0.re:=by
 rw [AAB] at h;obtain ⟨h0,h1,h2⟩:=zzp.1 h;exact ⟨h0,h1,h2.symm⟩
theorem ii {b:Nat}:InM noB σ (AR (reH hs:List (Nat×HEnt (std E' N')))) b↔InM noB σ (AR hs) b:=by
 constructor
 ·rintro (⟨n,e,h,_⟩ | ⟨n,h,cap,h1,h2,h3⟩)
  ·cases h
  ·obtain ⟨h0,h4,rfl⟩:=ET h1;exact .inr ⟨n,h0,cap,h4,h2,h3⟩
 ·rintro (⟨n,e,h,_⟩ | ⟨n,h,cap,h1,h2,h3⟩)
  ·cases h
  ·exact .inr ⟨n,h.re,cap,by rw [AAB,h1];rfl,h2,h3⟩
theorem wU {nw:Bool} {b:Nat} (h:StB n0 noB σ (AR hs) nw b):StB n0 noB σ (AR (reH hs:List (Nat×HEnt (std E' N')))) nw b:=⟨fun hm=>h.1 (ii.1 hm),h.2⟩
theorem RelC.re {c:AC (std E N)} {v:Value} (h:RelC P n0 noB σ (AR hs) w c v):RelC P n0 noB σ (AR (reH hs:List (Nat×HEnt (std E' N')))) w c.re v:=by
 cases c with
 | int k i=>exact h
 | bool b=>exact h
 | str s=>exact h
 | nil e=>exact h
 | nilptr=>exact h
 | imm e nw l=>obtain ⟨t,ht,hr⟩:=h;exact ⟨t,ht,hr.st (fun b hb=>wU hb)⟩
 | own e id =>
  obtain ⟨h1,h2⟩:=h;refine ⟨h1,fun h' hh=>?_⟩;obtain ⟨h0,h3,rfl⟩:=ET hh;exact h2 h0 h3
 | ptr b off=>obtain ⟨blk,h1,h2⟩:=h;exact ⟨blk,h1,fun e he=>by cases he⟩
 | aptr b off n sz i inner=>obtain ⟨h0,h1,blk,h2,h3⟩:=h;exact ⟨h0,h1,blk,h2,fun e he=>by cases he⟩
 | eptr id i off =>
  obtain ⟨h0,blk,o,hv,hk⟩:=h;refine ⟨h0,blk,o,hv,fun h' hh=>?_⟩;obtain ⟨h1,h3,rfl⟩:=ET hh;exact hk h1 h3
 | iptr e nw l i off =>
  obtain ⟨h0,h1,t,ts,blk,boff,len,cap,ht,hts,hr,hv⟩:=h;exact ⟨h0,h1,t,ts,blk,boff,len,cap,ht,hts,hr.st (fun b hb=>wU hb),hv⟩
 | fn f caps =>
  obtain ⟨vs,hv,hl,hp⟩:=h;refine ⟨vs,hv,hl,fun i b o hc=>?_⟩;obtain ⟨y,hy,blk,h2,h3⟩:=hp i b o hc;exact ⟨y,hy,blk,h2,fun e he=>by cases he⟩
 | tail e id i =>
  obtain ⟨h0,hv,hk⟩:=h;refine ⟨h0,hv,fun h' hh=>?_⟩;obtain ⟨h1,h3,rfl⟩:=ET hh;exact hk h1 h3
 | mp e id =>
  obtain ⟨hv,hk⟩:=h;refine ⟨hv,fun h' hh=>?_⟩;obtain ⟨h1,h3,rfl⟩:=ET hh;exact hk h1 h3
theorem RelCs.re:∀ {cs:List (AC (std E N))} {vs:List Value},RelCs P n0 noB σ (AR hs) w cs vs→RelCs P n0 noB σ (AR (reH hs:List (Nat×HEnt (std E' N')))) w (cs.map AC.re) vs
 | [],[],_=>trivial
 | c::cs,v::vs,h=>⟨h.1.re,RelCs.re h.2⟩
 | [],_::_,h=>h.elim
 | _::_,[],h=>h.elim
theorem RelVal.re {x:Val (std E N)} {v:Value} (h:RelVal P n0 noB σ (AR hs) w x v):RelVal P n0 noB σ (AR (reH hs:List (Nat×HEnt (std E' N')))) w x.re v:=⟨RelCs.re h.1,h.2⟩
theorem RelVals.re:∀ {cs:List (Val (std E N))} {vs:List Value},RelVals P n0 noB σ (AR hs) w cs vs→RelVals P n0 noB σ (AR (reH hs:List (Nat×HEnt (std E' N')))) w (cs.map Val.re) vs
 | [],[],_=>trivial
 | c::cs,v::vs,h=>⟨h.1.re,RelVals.re h.2⟩
 | [],_::_,h=>h.elim
 | _::_,[],h=>h.elim
theorem RelAV.re {x:AV (std E N)} {v:Value} (h:RelAV P n0 noB σ (AR hs) w x v):RelAV P n0 noB σ (AR (reH hs:List (Nat×HEnt (std E' N')))) w x.re v:=by
 cases x with
 | val x=>exact RelVal.re (x:=x) h
 | tup xs=>obtain ⟨vs,h1,h2⟩:=h;exact ⟨vs,h1,h2.re⟩
theorem RelArgs.re:∀ {xs:List (AV (std E N))} {vs:List Value},RelArgs P n0 noB σ (AR hs) w xs vs→RelArgs P n0 noB σ (AR (reH hs:List (Nat×HEnt (std E' N')))) w (xs.map AV.re) vs
 | [],[],_=>trivial
 | c::cs,v::vs,h=>⟨h.1.re,RelArgs.re h.2⟩
 | [],_::_,h=>h.elim
 | _::_,[],h=>h.elim
theorem Mem.re (m:Mem P n0 noB σ (AR hs) w):Mem P n0 noB σ (AR (reH hs:List (Nat×HEnt (std E' N')))) w:=by
 refine ⟨fun n e he=>(by cases he),fun n h' hh=>?_,fun b b' e e' blk he=>(by cases he),fun n n' h h' blk cap cap' hh hh'=>?_,fun b e n h blk cap he=>(by cases he)⟩
 ·obtain ⟨h0,h1,rfl⟩:=ET hh
  rcases m.H n h0 h1 with ⟨t,ts,h2,h3,h4,h5⟩ | ⟨mn,mr,b1,b2,b3,b4,b5,b6⟩
  case inr=>exact .inr ⟨mn,mr,b1,b2,b3,b4,b5,b6⟩
  refine .inl ⟨t,ts,h2,h3,h4,?_⟩
  rcases h5 with h5 | ⟨blk,cap,cells,el,a1,a2,a3,a4,a5,a6,v,a7,a8⟩
  ·exact .inl h5
  ·exact .inr ⟨blk,cap,cells,el,a1,a2,a3,a4,a5,a6,v,a7,fun i j t' hi hj=>(a8 i j t' hi hj).st (fun b hb=>wU hb)⟩
 ·obtain ⟨h0,h1,rfl⟩:=ET hh;obtain ⟨h0',h1',rfl⟩:=ET hh';exact m.uH n n' h0 h0' blk cap cap' h1 h1'
theorem pT (a b:List (Nat×HEnt (std E N))):(reH (a++b):List (Nat×HEnt (std E' N')))=reH a++reH b:=by simp [reH]
theorem oD (a:List (Nat×HEnt (std E N))):(reH a:List (Nat×HEnt (std E' N'))).length=a.length:=by simp [reH]
theorem Jg {give:Bool}:∀ {ts:List TypeId} {q:Nat} {ls rest:List Ad} {cs:List (AC (std E N))} {h:List (Nat×HEnt (std E N))},As (O:=std E N) P give q ts ls=some (cs,h,rest)→As (O:=std E' N') P give q ts ls=some (cs.map AC.re,reH h,rest)
 | [],q,ls,rest,cs,h,he=>by
  simp only [As] at he ⊢;cases he;rfl
 | t::ts,q,[],rest,cs,h,he=>by simp only [As] at he;cases he
 | t::ts,q,l::ls,rest,cs,h,he=>by
  simp only [As] at he ⊢;cases hl:AM P t<;>rw [hl] at he<;>cases l<;>simp only at he<;>try (cases he;done)
  ·obtain ⟨⟨cs1,h1,r1⟩,e1,e2⟩:=zzp.1 he;cases e2;simp only [Jg e1];rfl
  ·obtain ⟨⟨cs1,h1,r1⟩,e1,e2⟩:=zzp.1 he;cases e2;simp only [Jg e1];rfl
  ·obtain ⟨⟨cs1,h1,r1⟩,e1,e2⟩:=zzp.1 he;cases e2;simp only [Jg e1];rfl
  ·cases give with
   | false =>
    obtain ⟨⟨cs1,h1,r1⟩,e1,e2⟩:=zzp.1 he;cases e2;simp only [Jg e1];rfl
   | true =>
    obtain ⟨⟨cs1,h1,r1⟩,e1,e2⟩:=zzp.1 he;cases e2;simp only [Jg e1];rfl
theorem bM:∀ {ts:List TypeId} {gv:List Bool} {q:Nat} {fns:List Nat} {ls:List Ad} {vs:List (AV (std E N))} {hs:List (Nat×HEnt (std E N))},A6 (O:=std E N) P gv q ts fns ls=some (vs,hs)→A6 (O:=std E' N') P gv q ts fns ls=some (vs.map AV.re,reH hs)
  | [],gv,q,fns,ls,vs,hs,h=>by
    unfold A6 at h ⊢;cases fns<;>cases ls<;>simp only at h ⊢<;>cases h;rfl
  | t::ts,gv,q,fns,ls,vs,hs,h=>by
    unfold A6 at h ⊢;cases hl:AM P t<;>rw [hl] at h<;>simp only at h ⊢
    all_goals first
      | (split at h
         · obtain ⟨⟨r,h1⟩,e1,e2⟩:=zzp.1 h;cases e2;simp only [bM e1];rfl
         · cases h
         done)
      | (split at h
         · cases h
         · rename_i l hl2
           split at h
           · cases h
           · rename_i cs h1 ls1 hc;obtain ⟨⟨r,h2⟩,e1,e2⟩:=zzp.1 h;cases e2;simp only [Jg hc,oD,bM e1];simp [AV.re,Val.re,pT])
theorem GN {own:Nat→Bool} {nw:Bool} {c:List PV}:∀ {ts:List TypeId} {j q:Nat} {cs:List (AC (std E N))} {h:List (Nat×HEnt (std E N))},Az (O:=std E N) P own nw c j q ts=some (cs,h)→Az (O:=std E' N') P own nw c j q ts=some (cs.map AC.re,reH h)
 | [],j,q,cs,h,he=>by
  simp only [Az] at he ⊢;cases he;rfl
 | t::ts,j,q,cs,h,he=>by
  simp only [Az] at he ⊢;cases hl:AM P t<;>rw [hl] at he<;>simp only at he<;>try (cases he;done)
  ·obtain ⟨⟨cs1,h1⟩,e1,e2⟩:=zzp.1 he;cases e2;simp only [GN e1];rfl
  ·obtain ⟨⟨cs1,h1⟩,e1,e2⟩:=zzp.1 he;cases e2;simp only [GN e1];rfl
  ·obtain ⟨⟨cs1,h1⟩,e1,e2⟩:=zzp.1 he;cases e2;simp only [GN e1];rfl
  ·rename_i e;cases ho:own e with
   | false =>
    rw [ho] at he;obtain ⟨⟨cs1,h1⟩,e1,e2⟩:=zzp.1 he;cases e2;simp only [GN e1,ho];rfl
   | true =>
    rw [ho] at he;obtain ⟨⟨cs1,h1⟩,e1,e2⟩:=zzp.1 he;cases e2;simp only [GN e1,ho];rfl
theorem hC {own:Nat→Bool} {nw:Bool} {c:List PV}:∀ {ts:List TypeId} {j q:Nat} {vs:List (Val (std E N))} {h:List (Nat×HEnt (std E N))},BR (O:=std E N) P own nw c j q ts=some (vs,h)→BR (O:=std E' N') P own nw c j q ts=some (vs.map Val.re,reH h)
 | [],j,q,vs,h,he=>by
  simp only [BR] at he ⊢;cases he;rfl
 | t::ts,j,q,vs,h,he=>by
  simp only [BR] at he ⊢
  split at he
  ·cases he
  ·rename_i l hl
   split at he
   ·cases he
   ·rename_i cs h1 hc
    split at he
    ·cases he
    ·rename_i vs2 h2 hv;cases he;simp only [hl,GN hc,oD,hC hv];simp [Val.re,pT]
theorem AFS (vs:List (Val (std E N))):(LH (vs.map Val.re):AV (std E' N'))=(LH vs).re:=by
 match vs with
 | []=>rfl
 | [v]=>rfl
 | v::v2::vs=>rfl
theorem Ret.re {ci:CI} {fn:Func} {rs:List PV} {e:Ending} {w':World} (h:Ret (E:=E) (N:=N) P ci n0 σ (AR hs) w fn rs e w'):Ret (E:=E') (N:=N') P ci n0 σ (AR (reH hs)) w fn rs e w':=by
 cases e with
 | panicked ch=>exact h.elim
 | outgrown=>exact h.elim
 | returned v =>
  obtain ⟨h1,h2,h3,h4,h5,h6⟩:=h;refine ⟨h1,h2,h3,h4,fun b hb hm=>h5 b hb (fun h=>hm (ii.2 h)),fun q=>?_⟩;obtain ⟨σ',vs,hs',a1,a2,a3,a4⟩:=h6 q;exact ⟨σ',vs.map Val.re,reH hs',hC a1,a2.re,by rw [AFS];exact a3.re,fun b hb=>(a4 b (ii.1 hb)).imp (fun h=>ii.2 h) id⟩
theorem AGN (hs:List (Nat×HEnt (std E N))):(reH (reH hs:List (Nat×HEnt (std E' N'))):List (Nat×HEnt (std E N)))=hs:=by
 simp only [reH,List.map_map]
 conv=>rhs;rw [← List.map_id hs]
 rfl
theorem ACy {ci : CI} (h : ∀ (ls rs : List PV), E' ci.f ci.fns ls = some rs → ∀ fn, P.funcs[ci.f]? = some fn → ∀ (vs : List (AV (std E N))) (hs : List (Nat × HEnt (std E N))), A6 (O := std E N) P ci.gives 1 fn.params.toList ci.fns (ls.map PV.leaf) = some (vs, hs) →
    ∀ (n0:Nz) (σ:Nat→Option (Nat×Nat)) (w:World) (args:List Value),n0.n=w.heap.size→Mem P n0 noB σ (AR hs) w→RelArgs P n0 noB σ (AR hs) w vs args→(ph ci.gives=true→∀ q,σ q=none)→Kept P noB σ (AR hs) w→Calls P ci.f args.toArray w (Ret (E:=E) (N:=N) P ci n0 σ (AR hs) w fn rs)):Bx P E' N' ci:=by
  intro fn hfn ls rs he vs hs hav n0 σ w args hn0 m hr hni hkp;refine (h ls rs he fn hfn _ _ (bM hav) n0 σ w args hn0 m.re hr.re hni (fun g hg=>⟨(hkp g hg).1,fun hm=>(hkp g hg).2 (ii.1 hm)⟩)).mono (fun e w' hret=>?_);have:=Ret.re (E':=E') (N':=N') hret;rw [AGN] at this;exact this
theorem HC {ci : CI} (h : ∀ (ls rs : List PV), E' ci.f ci.fns ls = some rs → ∀ fn, P.funcs[ci.f]? = some fn → ∀ (vs : List (AV (std E N))) (hs : List (Nat × HEnt (std E N))), A6 (O := std E N) P ci.gives 1 fn.params.toList ci.fns (ls.map PV.leaf) = some (vs, hs) →
    ∀ (n0:Nz) (σ:Nat→Option (Nat×Nat)) (w:World) (args:List Value),n0.n=w.heap.size→Mem P n0 noB σ (AR hs) w→RelArgs P n0 noB σ (AR hs) w vs args→Kept P noB σ (AR hs) w→Calls P ci.f args.toArray w (Ret (E:=E) (N:=N) P ci n0 σ (AR hs) w fn rs)):Bx P E' N' ci :=
  ACy fun ls rs he fn hfn vs hs hav n0 σ w args hn0 m hr _ hkp=>h ls rs he fn hfn vs hs hav n0 σ w args hn0 m hr hkp
theorem ADl (hmix : P.follows .mixedOrders = true) {cfg : Cfg} (hΓ : ∀ ci ∈ cfg.gam, Bx P E N ci ∧ Bx P E N { ci with own := false }) {ci : CI} (h : ∀ (ls rs : List PV), E' ci.f ci.fns ls = some rs → XF (O := std E N) P cfg ci.ow ci.nw ci.gives ci.f ci.fns (ls.map PV.leaf) = some rs) :
    Bx P E' N' ci∧Bx P E' N' { ci with own:=false } :=
  ⟨HC (fun ls rs he fn hfn vs hs hv n0 σ w args hn0 m hr hkp=>yP hmix hΓ (ci:=ci) (fun _=>id) (h ls rs he) hfn hv hn0 m hkp hr),
   HC (ci:={ ci with own:=false }) (fun ls rs he fn hfn vs hs hv n0 σ w args hn0 m hr hkp=>yP hmix hΓ (own:=ci.ow) (ci:={ ci with own:=false }) (fun e he=>by cases he) (h ls rs he) hfn hv hn0 m hkp hr)⟩
end
def oQ:Operand→Bool
 | .const (.slice none 0 0)=>true
 | _=>false
def Md (T:TypeId):Code→Option (Code×Code)
 | .seq (.region _ r0 false) (.seq (.seq (.region _ r1 false) (.cond (.tmp 4) nb .skip)) tail)=>match r0.toList,r1.toList with
  | [⟨some 2,.assign (.const _),_,_,_,none⟩],[⟨some 3,.move (.tmp 0),_,_,_,none⟩,⟨some 4,.binOp .eql U (.tmp 3) z _,_,_,_,none⟩]=>match Nat.beq U T&&oQ z with
   | true=>some (nb,tail)
   | false=>none
  | _,_=>none
 | _=>none
def Hc {O:Alg} (e:TypeId) (l:O.L):State O:={ tm:=Bu 0 [.val ⟨false,[.imm e false l]⟩] .e,bx:=[],hp:=[],st:=1 }
section
variable {E:Env} {N:Nat} {P:Program} {cfg:Cfg} {n0 n0':Nz} {nt:Nat} {β β':Nat→Option Nat} {σ σ':Nat→Option (Nat×Nat)} {s s' s2:St0 E N} {a a':Act} {w w':World}
theorem Sim.put_free (hs:Sim P n0 nt β σ s a w) {d:Nat} {z:Value} (hd:s.getT d=none) (hg:∀ n tv,s.getT n=some tv→tv.gs=[]):Sim P n0 nt β σ s (a.put (some d) z) w:=by
 refine ⟨hs.n0le,by simp [Act.put,hs.size],fun n tv hn=>?_,hs.M,hs.kept⟩;have hne:n≠d:=fun e=>by rw [e,hd] at hn;cases hn
 rw [FM hne];have g0:=hg n tv hn
 rcases hs.T n tv hn with ⟨h1,h2⟩ | ⟨h1,h2⟩
 ·exact .inl ⟨by rw [g0];exact fun n b hm=>by simp at hm,h2⟩
 ·exact (h1 (by rw [g0];exact fun n b hm=>by simp at hm)).elim
theorem cz {ops:Array Oper} {Q:Exit→Act→World→Prop} {i:Nat} {o:Oper} (ho:ops[i]?=some o) (hg:o.guard=none) {v:Value} (hx:(execOp a.eval o).run P w=.ok (.value v) w) {K:Act→World→Prop} (hK:K (a.put o.dst v) w):wpOp P ops Q i K a w:=by
 unfold wpOp;simp only [ho,Region.wanted,hg,if_true];refine .inl ?_;unfold Oper.wp;rw [hx];exact hK
theorem AEB {d:Option Tmp} {t:TypeId} {p:String} {af:Array Edge} {g:Option (Nat×Bool)} {x:Operand} {v:Value} (h:a.eval x=v):(execOp a.eval ⟨d,.move x,t,p,af,g⟩).run P w=.ok (.value v) w:=by
 subst h;rfl
theorem ABR {d:Option Tmp} {t:TypeId} {p:String} {af:Array Edge} {g:Option (Nat×Bool)} {x:Operand} {v:Value} (h:a.eval x=v):(execOp a.eval ⟨d,.assign x,t,p,af,g⟩).run P w=.ok (.value v) w:=by
 subst h;rfl
theorem ACK {o:Oper} {Q:Exit→Act→World→Prop} (hg:o.guard=none) {v:Value} (hx:(execOp a.eval o).run P w=.ok (.value v) w) (hK:Q .normal (a.put o.dst v) w):wpOps P #[o] Q (List.range 1) a w:=by
 show wpOps P #[o] Q [0] a w;rw [wpOps_cons];exact cz rfl hg hx hK
theorem ACL {o o' : Oper} {Q : Exit → Act → World → Prop} (hg : o.guard = none) (hg' : o'.guard = none) {v v' : Value} (hx : (execOp a.eval o).run P w = .ok (.value v) w) (hx' : (execOp (a.put o.dst v).eval o').run P w = .ok (.value v') w)
    (hK:Q .normal ((a.put o.dst v).put o'.dst v') w):wpOps P #[o,o'] Q (List.range 2) a w:=by
  show wpOps P #[o,o'] Q [0,1] a w;rw [wpOps_cons];refine cz rfl hg hx ?_;rw [wpOps_cons];exact cz rfl hg' hx' hK
theorem zN (hmix : P.follows .mixedOrders = true) (hΓ : ∀ ci ∈ cfg.gam, Bx P E N ci ∧ Bx P E N { ci with own := false }) {own : Nat → Bool} {own' nw : Bool} {f : FuncId} (ho : ∀ e, CI.ow ⟨f, [], own', nw, [], []⟩ e = true → own e = true) {T e : TypeId} {fn : Func} (hfn : P.funcs[f]? = some fn) (hp : fn.params.toList = [T]) (hT : P.underlying T = some (.slice e))
    {body nb tail:Code} (hb:fn.body=some body) (hpc:Md T body=some (nb,tail)) (ht1:C8 fn.ntmps nb=true) (ht2:C8 fn.ntmps tail=true) (hna:(an P nb).nrm.isNone=true) (hnt:5≤fn.ntmps) {lv:Lv} {l:Rows}
    (h1:l=[]→XL (O:=std E N) P cfg 6 nb true lv (Hc e l) (sJ P own nw fn)=some [.rows l]) (h2:XL (O:=std E N) P cfg 6 tail true lv (Hc e l) (sJ P own nw fn)=some [.rows l])
    {vs:List (AV (std E N))} {hs:List (Nat×HEnt (std E N))} (hv:A6 (O:=std E N) P [] 1 fn.params.toList [] ([PV.rows l].map PV.leaf)=some (vs,hs)) (hn0:n0.n=w.heap.size) (m:Mem P n0 noB σ (AR hs) w) (hkp:Kept P noB σ (AR hs) w) {args:List Value} (hr:RelArgs P n0 noB σ (AR hs) w vs args) :
    Calls P f args.toArray w (Ret (E:=E) (N:=N) P ⟨f,[],own',nw,[],[]⟩ n0 σ (AR hs) w fn [.rows l]):=by
  have hlk:AM P T=.sl e:=by simp [AM,hT]
  obtain ⟨rfl,rfl⟩:vs=[.val ⟨false,[.imm e false l]⟩]∧hs=[]:=by
    rw [hp] at hv;unfold A6 at hv;simp only [hlk] at hv;cases ht:AU P T with
    | none=>rw [ht] at hv;cases hv
    | some ts =>
      rw [ht] at hv;have:ts=[T]:=by
        unfold AU at ht;simp only [C6,Bd,hT] at ht
        split at ht
        · cases ht;rfl
        · cases ht
      subst this;have hag:AW P T=false:=by simp [AW,hT]
      simp [As,hlk,PV.leaf,A6,hag] at hv;exact ⟨hv.1.symm,hv.2⟩
  obtain ⟨v,rfl⟩:∃ v,args=[v]:=by
    have:=hr.len
    match args,this with
    | [v],_=>exact ⟨v,rfl⟩
  have hv0:RelVal P n0 noB σ (AR []) w (⟨false,[.imm e false l]⟩:Val (std E N)) v:=hr.1;obtain ⟨hc1,hc2⟩:=hv0;have hc2:v.oneCell'=true:=hc2;rw [BS hc2] at hc1;obtain ⟨t0,ht0,hrep⟩:RelC P n0 noB σ (AR ([]:List (Nat×HEnt (std E N)))) w (.imm e false l) v:=hc1.1;obtain ⟨ad,len,cap,hvs,hnil⟩:∃ ad len cap,v=.slice ad len cap∧(ad=none→l=[]):=by
    cases hrep with
    | sl v h hts hl hrl hcap hm hv =>
      refine ⟨_,_,_,rfl,fun ha=>?_⟩
      rcases hm with hm | ⟨b,off,hb,_⟩
      · exact List.length_eq_zero_iff.1 (by rw [hl];exact hm)
      · rw [hb] at ha;cases ha
  subst hvs;unfold Md at hpc
  split at hpc
  case h_2=>cases hpc
  rename_i i0 r0 i1 r1 nb' tail'
  split at hpc
  case h_2=>cases hpc
  rename_i c0 ty0 pos0 af0 ty1 pos1 af1 U z uT ty2 pos2 af2 hr0 hr1
  split at hpc
  case h_2=>cases hpc
  rename_i hUz;cases hpc;simp only [zzk] at hUz;have hU:=AD.1 hUz.1;subst hU;obtain rfl:z=.const (.slice none 0 0):=by
    have:=hUz.2;unfold oQ at this
    split at this
    · rfl
    · cases this
  have e0:r0=#[⟨some 2,.assign (.const c0),ty0,pos0,af0,none⟩]:=by apply Array.ext';exact hr0
  have e1:r1=#[⟨some 3,.move (.tmp 0),ty1,pos1,af1,none⟩,⟨some 4,.binOp .eql U (.tmp 3) (.const (.slice none 0 0)) uT,ty2,pos2,af2,none⟩]:=by apply Array.ext';exact hr1
  subst e0;subst e1
  let sx:St0 E N:={ tm:=.e,bx:=[],hp:=[],st:=1 }
  have subx:Sub (AR ([]:List (Nat×HEnt (std E N)))) sx:=Sub.of_same (fun _=>rfl) (fun _=>rfl);have mx:Mem P n0 noB σ sx w:=subx.mem m;have hrx:RelArgs P n0 noB σ sx w [.val ⟨false,[.imm e false l]⟩] [.slice ad len cap]:=(subx.ext P (fun _=>False) noB σ w).relArgs hr;have hfx:∀ n,sx.st≤n→Ma sx n:=fun n hn=>⟨fun k e he=>(by cases he),fun k e he=>(by cases he)⟩
  have hs1:=ADK (s:=sx) (nt:=fn.ntmps) (Nat.le_of_eq hn0) mx (hkp.ext (subx.ext P (fun _=>False) noB σ w)) hrx;have wf1:WF (Hc e l:St0 E N):=wf0 (s:=sx) hfx (args:=[.val ⟨false,[.imm e false l]⟩]) (fun x hx n hn=>by simp at hx;subst hx;simp [AV.names,AJ,AC.names] at hn);have hs1:Sim P n0 (Fm fn.ntmps [.slice ad len cap]).tmps.size noB σ (Hc e l:St0 E N) (Fm fn.ntmps [.slice ad len cap]) w:=hs1;have subs1:Sub sx (Hc e l:St0 E N):=Sub.of_same (fun _=>rfl) (fun _=>rfl);have free:∀ d,d≠0→(Hc e l:St0 E N).getT d=none:=fun d hd=>by
    cases hx:(Hc e l:St0 E N).getT d with
    | none=>rfl
    | some tv =>
      have hx:DG (Bu 0 [.val ⟨false,[.imm e false l]⟩] (.e:TM (TV (std E N)))) d=some tv:=hx
      rcases Rv hx with h | ⟨_,v,h1,_⟩
      · rw [ZE] at h;cases h
      · have:=(List.getElem?_eq_some_iff.1 h1).1;simp at this;omega
  have hs2:=((hs1.put_free (d:=2) (z:=c0) (free 2 (by omega)) wf1.gs).put_free (d:=3) (z:=.slice ad len cap) (free 3 (by omega)) wf1.gs).put_free (d:=4) (z:=.bool ad.isNone) (free 4 (by omega)) wf1.gs;have hsz:=fe (nt:=fn.ntmps) (vals:=[.slice ad len cap]);have ht1':=Rq hsz ht1;have ht2':=Rq hsz ht2;have x0:∀ {β':Nat→Option Nat} {σ':Nat→Option (Nat×Nat)} {s':St0 E N} {w':World},Ext P (fun n=>(Hc e l:St0 E N).st≤n) noB σ (Hc e l) w β' σ' s' w'→Ext P (fun _=>True) noB σ (AR ([]:List (Nat×HEnt (std E N)))) w β' σ' s' w':=fun x =>
    (((subx.ext P (fun _=>False) noB σ w).trans (subs1.ext P (fun _=>False) noB σ w)).trans x).weaken (fun _ _=>trivial)
  have hget0:((Fm fn.ntmps [Value.slice ad len cap]).put (some 2) c0).tmps.getD 0 undef=.slice ad len cap:=by
    rw [FM (by omega)];simp only [Fm];rw [Array.getD_eq_getD_getElem?,Array.getElem?_append_left (by simp)];rfl
  have hget3:(((Fm fn.ntmps [Value.slice ad len cap]).put (some 2) c0).put (some 3) (.slice ad len cap)).tmps.getD 3 undef=.slice ad len cap:=by
    refine M7 ?_;have:5≤(Fm fn.ntmps [Value.slice ad len cap]).tmps.size:=Nat.le_trans hnt hsz;simp [Act.put];omega
  have hget4:((((Fm fn.ntmps [Value.slice ad len cap]).put (some 2) c0).put (some 3) (.slice ad len cap)).put (some 4) (.bool ad.isNone)).tmps.getD 4 undef=.bool ad.isNone:=by
    refine M7 ?_;have:5≤(Fm fn.ntmps [Value.slice ad len cap]).tmps.size:=Nat.le_trans hnt hsz;simp [Act.put];omega
  generalize hB:bodyPost P fn (Ret (E:=E) (N:=N) P ⟨f,[],own',nw,[],[]⟩ n0 σ (AR []) w fn [.rows l])=B;generalize hA:(((Fm fn.ntmps [Value.slice ad len cap]).put (some 2) c0).put (some 3) (.slice ad len cap)).put (some 4) (.bool ad.isNone)=A at hs2 hget4;have hAd:A.defers=[]:=by rw [← hA];rfl
  have fin:(Code.cond (.tmp 4) nb Code.skip).wp P (Exit.then (tail.wp P B) B) A w:=by
    refine wp_cond_split (t:=ad.isNone) (c:=.tmp 4) (a:=A) hget4 (fun ht=>?_) (fun ht=>?_)
    · have hl:=hnil (by cases ad with | none=>rfl | some _=>simp at ht);refine vT hmix hΓ 6 n0 _ _ ht1' _ _ _ _ _ noB σ _ w _ (h1 hl) hs2 wf1 (fun ex s' β' σ' a' w' hk mm hmm hp wf' hle=>?_);have hfin:=wR (ci:=⟨f,[],own',nw,[],[]⟩) (fn:=fn) ho hp.sim (hp.defers.trans hAd) (x0 hp.ext) hk;rw [hB] at hfin;cases ex with
      | nrm =>
        have:(an P nb).nrm=some mm:=hmm;rw [this] at hna;cases hna
      | ret=>exact hfin
      | ext id=>exact hfin
    · refine wp_skip ?_;refine vT hmix hΓ 6 n0 _ _ ht2' _ _ _ _ _ noB σ _ w B h2 hs2 wf1 (fun ex s' β' σ' a' w' hk mm hmm hp wf' hle=>?_);rw [← hB];exact wR (ci:=⟨f,[],own',nw,[],[]⟩) ho hp.sim (hp.defers.trans hAd) (x0 hp.ext) hk
  refine calls_of_wp hfn hb ?_;rw [hB];refine wp_seq (wp_region (ACK (o:=⟨some 2,.assign (.const c0),ty0,pos0,af0,none⟩) rfl (v:=c0) (ABR (x:=.const c0) rfl) ?_));show (Code.seq (Code.seq _ _) tail).wp P B ((Fm fn.ntmps [Value.slice ad len cap]).put (some 2) c0) w;refine wp_seq (wp_seq (wp_region (ACL (o:=⟨some 3,.move (.tmp 0),ty1,pos1,af1,none⟩) (o':=⟨some 4,.binOp .eql U (.tmp 3) (.const (.slice none 0 0)) uT,ty2,pos2,af2,none⟩) rfl rfl (v:=.slice ad len cap) (v':=.bool ad.isNone)
    (AEB (a:=(Fm fn.ntmps [Value.slice ad len cap]).put (some 2) c0) (x:=.tmp 0) hget0) (CX (x:=do eqGuard .eql U (.tmp 3) (.const (.slice none 0 0)) ((((Fm fn.ntmps [Value.slice ad len cap]).put (some 2) c0).put (some 3) (.slice ad len cap)).eval (.tmp 3)) (.slice none 0 0);Go.binOp .eql U ((((Fm fn.ntmps [Value.slice ad len cap]).put (some 2) c0).put (some 3) (.slice ad len cap)).eval (.tmp 3)) (.slice none 0 0)) (by simp [execOp,Act.eval]) (by
    rw [show ((((Fm fn.ntmps [Value.slice ad len cap]).put (some 2) c0).put (some 3) (.slice ad len cap)).eval (.tmp 3))=.slice ad len cap from hget3];exact A1 (JJ _ _ _ _ _ _ rfl (by simp)) (Lib.run_eql_slice_nil (P:=P) w U e ad len cap 0 0 hT))) ?_)))
  rw [← hA] at fin;exact fin
end
def X5:List Nat→List PV→Bool
 | [],[]=>true
 | k::ks,p::ps=>(match p with | .int _=>Nat.beq k 0 | .bool _=>Nat.beq k 1 | .str _=>Nat.beq k 2 | .rows _=>Nat.beq k 3)&&X5 ks ps
 | _,_=>false
structure Ags (O:Alg) where
 I:Nat→O.I
 B:Nat→O.B
 S:Nat→O.S
 L:Nat→O.L
def xr {O:Alg} (x:Ags O):List Nat→Nat→List O.Lf
 | [],_=>[]
 | k::ks,j=>(match k with | 0=>.int (x.I j) | 1=>.bool (x.B j) | 2=>.str (x.S j) | _=>.rows (x.L j))::xr x ks (j+1)
def cr (O:Alg) (c:O.C):List Nat→Nat→List O.Lf
 | [],_=>[]
 | k::ks,j=>(match k with | 0=>.int (O.h c j) | 1=>.bool (O.k c j) | 2=>.str (O.cS c j) | _=>.rows (O.o c j))::cr O c ks (j+1)
def rr (O:Alg) (l:O.L) (i:O.I):List Nat→Nat→List O.Lf
 | [],_=>[]
 | k::ks,j=>(match k with | 0=>.int (O.q l i j) | 1=>.bool (O.rB l i j) | 2=>.str (O.rS l i j) | _=>.rows (O.rL l i j))::rr O l i ks (j+1)
def kI:List Nat:=[0,0,0,0,0,0,0,0,0,0,0,0,0,0,3,0,3,3,1,3,1,0,0,0,3,0,0,0]
def kR:List Nat:=[2,0,0,0,0,0,0,0,1,0,0,0,0,3]
def kM:List Nat:=[2,0,0,0,0,0,0,0,1,0,0,0,0,3,0,0,1,3,0,0,0,0,0]
def ap (O:Alg) (a b:List O.Lf):List O.Lf:=a++b
def xOf {E:Env} {N:Nat} (ls:List PV):Ags (std E N):={ I:=fun j=>pvI (AA ls j),B:=fun j=>pvB (AA ls j),S:=fun j=>pvS (AA ls j),L:=fun j=>pvL (AA ls j) }
theorem yC {E:Env} {N:Nat}:∀ {ks:List Nat} {ps pre:List PV},X5 ks ps=true→ps.map PV.leaf=xr (xOf (E:=E) (N:=N) (pre++ps)) ks pre.length
 | [],[],pre,_=>rfl
 | k::ks,p::ps,pre,h=>by
  simp only [X5,zzk] at h;have ih:=yC (E:=E) (N:=N) (ks:=ks) (ps:=ps) (pre:=pre++[p]) h.2;simp only [List.map_cons,xr];have hc:AA (pre++p::ps) pre.length=p:=by
   unfold AA;rw [zzl,List.getElem?_append_right (Nat.le_refl _)];simp
  rw [List.append_assoc,List.length_append] at ih;have ih:ps.map PV.leaf=xr (xOf (E:=E) (N:=N) (pre++p::ps)) ks (pre.length+1):=ih;rw [ih];congr 1;have h1:=h.1;cases p with
  | int n=>have:=AD.1 h1;subst this;simp [xOf,hc,PV.leaf]
  | bool n=>have:=AD.1 h1;subst this;simp [xOf,hc,PV.leaf]
  | str n=>have:=AD.1 h1;subst this;simp [xOf,hc,PV.leaf]
  | rows n=>have:=AD.1 h1;subst this;simp [xOf,hc,PV.leaf]
 | [],_::_,_,h=>by simp [X5] at h
 | _::_,[],_,h=>by simp [X5] at h
theorem yr {E:Env} {N:Nat} {ks:List Nat} {ls:List PV} (h:X5 ks ls=true):ls.map PV.leaf=xr (xOf (E:=E) (N:=N) ls) ks 0:=yC (pre:=[]) h
def U1 (ks:List Nat) (ls:List PV) (F:Option (List PV)):Option (List PV):=match X5 ks ls with
 | true=>F
 | false=>none
theorem wT {ks:List Nat} {ls rs:List PV} {F:Option (List PV)} (h:U1 ks ls F=some rs):X5 ks ls=true∧F=some rs:=by
 unfold U1 at h
 split at h
 ·rename_i hs;exact ⟨hs,h⟩
 ·cases h
abbrev VV (P:Program) (E:Env) (N:Nat) (ci:CI):Prop:=Bx P E N ci∧Bx P E N { ci with own:=false }
theorem Bh {P:Program} {E:Env} {N:Nat}:∀ ci∈([]:List CI),VV P E N ci:=fun ci h=>by simp at h
theorem AK {P:Program} {E:Env} {N:Nat} {c:CI} {l:List CI} (h:VV P E N c) (k:∀ ci∈l,VV P E N ci):∀ ci∈c::l,VV P E N ci:=fun ci hm=>by
 rcases List.mem_cons.1 hm with rfl | hm
 ·exact h
 ·exact k ci hm
theorem A9 {P : Program} (hmix : P.follows .mixedOrders = true) {E : Env} {N : Nat} {cfg : Cfg} (hΓ : ∀ ci ∈ cfg.gam, VV P E N ci) {ci : CI} {ks : List Nat} {c F : List PV → Option (List PV)} (hc : ∀ ls, c ls = U1 ks ls (F ls))
    (hx:∀ ls,XF (O:=std E N) P cfg ci.ow ci.nw ci.gives ci.f ci.fns (xr (xOf ls) ks 0)=F ls) {E':Env} {N':Nat} (h:∀ ls,E' ci.f ci.fns ls=c ls):VV P E' N' ci :=
  ADl hmix hΓ (fun ls rs he=>by
    rw [h,hc] at he;obtain ⟨h1,h2⟩:=wT he;rw [yr h1,hx];exact h2)
def jN (n b:Nat):Bool:=decide (n≤17592186044416∧n * b≤17592186044416)
def S0 (b:Nat) (ls:List PV):Option (List PV):=match ls with
 | [.rows l]=>match jN l.length b with
  | true=>some [.rows l]
  | false=>none
 | _=>none
def VE (T:TypeId) (fn:Func):Code:=match fn.body with
 | some c=>match Md T c with
  | some (nb,_)=>nb
  | none=>.skip
 | none=>.skip
def W0 (T:TypeId) (fn:Func):Code:=match fn.body with
 | some c=>match Md T c with
  | some (_,t)=>t
  | none=>.skip
 | none=>.skip
def qn (fn:Func):Lv:={ nrm:=Q8 fn.results.toList,ret:=Q8 fn.results.toList,exts:=[] }
def AAX (P:Program) (T:TypeId) (fn:Func):Bool:=match fn.body with
 | some c=>(Md T c).isSome&&C8 fn.ntmps (VE T fn)&&C8 fn.ntmps (W0 T fn)&&(an P (VE T fn)).nrm.isNone&&Nat.ble 5 fn.ntmps&&AF fn.params.toList [T]
 | none=>false
theorem R3 {P : Program} (hmix : P.follows .mixedOrders = true) {f : FuncId} {T e : TypeId} {b : Nat} {fn : Func} (hfn : P.funcs[f]? = some fn) (hT : P.underlying T = some (.slice e)) (hok : AAX P T fn = true) (hb : b ≤ 1048576)
    (h1:∀ (O:Alg) (l:O.L),XL (O:=O) P { gam:=[] } 6 (VE T fn) true (qn fn) (Hc e l) (sJ P (fun _=>true) true fn)=O.a [.rows O.u])
    (h2:∀ (O:Alg) (l:O.L),XL (O:=O) P { gam:=[] } 6 (W0 T fn) true (qn fn) (Hc e l) (sJ P (fun _=>true) true fn)=O.n (O.z (O.l (O.ac (O.ab []) l)) b) (O.a [.rows (O.ac (O.ab []) l)]))
    {E':Env} {N':Nat} (h:∀ ls,E' f [] ls=S0 b ls):VV P E' N' ⟨f,[],true,true,[],[]⟩:=by
  unfold AAX at hok
  split at hok
  case h_2=>cases hok
  rename_i c hbody;simp only [zzk] at hok;obtain ⟨⟨⟨⟨⟨k1,k2⟩,k3⟩,k4⟩,k5⟩,k6⟩:=hok;have k5:=Nat.le_of_ble_eq_true k5;have k6:=Jc.1 k6;obtain ⟨⟨nb,tail⟩,hpc⟩:=Option.isSome_iff_exists.1 k1;have hnb:VE T fn=nb:=by simp [VE,hbody,hpc]
  have htl:W0 T fn=tail:=by simp [W0,hbody,hpc]
  rw [hnb] at k2 k4;rw [htl] at k3;have main : ∀ own', (own' = true → true = true) → ∀ (ls rs : List PV), E' f [] ls = some rs → ∀ fn', P.funcs[f]? = some fn' → ∀ (vs : List (AV (std E' N'))) (hs : List (Nat × HEnt (std E' N'))), A6 (O := std E' N') P [] 1 fn'.params.toList [] (ls.map PV.leaf) = some (vs, hs) →
      ∀ (n0:Nz) (σ:Nat→Option (Nat×Nat)) (w:World) (args:List Value),n0.n=w.heap.size→Mem P n0 noB σ (AR hs) w→RelArgs P n0 noB σ (AR hs) w vs args→Kept P noB σ (AR hs) w→Calls P f args.toArray w (Ret (E:=E') (N:=N') P ⟨f,[],own',true,[],[]⟩ n0 σ (AR hs) w fn' rs) :=
    fun own' ho ls rs he fn' hfn' vs hs hv n0 σ w args hn0 m hr hkp=>by
      rw [hfn] at hfn';cases hfn';rw [h] at he;unfold S0 at he
      split at he
      case h_2=>cases he
      rename_i l
      split at he
      case h_2=>cases he
      rename_i hsm;cases he;unfold jN at hsm;have hsm:=of_decide_eq_true hsm;refine zN (cfg:={ gam:=[] }) hmix (fun ci hm=>by simp at hm) (fun _ _=>rfl) hfn k6 hT hbody hpc k2 k3 k4 k5 (lv:=qn fn) (fun hl=>?_) ?_ hv hn0 m hkp hr
      · rw [← hnb,h1,hl];rfl
      · rw [← htl,h2];have:(decide ((0:Int)≤((([]++l:Rows).length:Nat):Int)∧((([]++l:Rows).length:Nat):Int)≤17592186044416∧((([]++l:Rows).length:Nat):Int) * (b:Int)≤17592186044416∧b≤1048576))=true:=by
          simp only [List.nil_append,decide_eq_true_eq];refine ⟨by omega,by omega,?_,hb⟩;have:=hsm.2;rw [← Int.natCast_mul];omega
        show cond (decide ((0:Int)≤((([]++l:Rows).length:Nat):Int)∧((([]++l:Rows).length:Nat):Int)≤17592186044416∧((([]++l:Rows).length:Nat):Int) * (b:Int)≤17592186044416∧b≤1048576)) (some [PV.rows ([]++l)]) none=_;rw [this];rfl
  exact ⟨HC (ci:=⟨f,[],true,true,[],[]⟩) (main true (fun _=>rfl)),HC (ci:=⟨f,[],false,true,[],[]⟩) (main false (fun _=>rfl))⟩
end Go.Px
end
