/- Part 6. -/
import Derived.Test.YtlephafgekoeaaaGreatPart05
set_option linter.unusedVariables false
set_option linter.unusedSimpArgs false
section
namespace Go.Px
section
variable {E:Env} {N:Nat} {P:Program} {cfg:Cfg} {n0 n0':Nz} {nt:Nat} {β β':Nat→Option Nat} {σ σ':Nat→Option (Nat×Nat)} {s s':St0 E N} {a:Act} {w w':World}
theorem eF (hs:Sim P n0 nt β σ s a w) {ctx:List (Nat×Bool)} (hf:Facts a ctx):∀ {ts:List TypeId} {xs:List Operand} {vs:List (AV (std E N))} {m m':Nat},RM.run s (Xs (O:=std E N) P ctx ts xs) m=.ok (vs,m') →
    RelArgs P n0 β σ s w vs (xs.map a.eval)
  | [],[],vs,m,m',h=>by cases zzc h;trivial
  |t::ts,x::xs,vs,m,m',h=>by
    obtain⟨v,m1,h1,h2⟩:=zza h;obtain⟨r,m2,h3,h4⟩:=zza h2;cases zzc h4;exact⟨(Ve hs hf h1).1,eF hs hf h3⟩
  | [],_::_,_,_,_,h=>(zzb h).elim
  |_::_,[],_,_,_,h=>(zzb h).elim
theorem ABJ {c:AC0 E N} {l:AQ} {fr:List (Nat×Option (HEnt (std E N)))} {nw:Bool} {k k':Nat} (h:RM.run s (kJ (O:=std E N) c) k=.ok ((l,fr,nw),k')):FrOK s fr:=by
 have nil:FrOK s ([]:List (Nat×Option (HEnt (std E N)))):=fun _ _ hm=>by simp at hm
 cases c with
 |own e id =>
  obtain⟨k1,h⟩:=zzf h;cases hh:s.getH id with
  |none=>rw[hh]at h;trivial
  |some en =>
   rw[hh]at h;cases zzc h;intro n v hm
   simp_all
 |int _ _=>cases zzc h;exact nil
 |bool _=>cases zzc h;exact nil
 |str _=>cases zzc h;exact nil
 |nil _=>cases zzc h;exact nil
 |imm _ _ _=>cases zzc h;exact nil
 |opq=>cases zzc h;exact nil
 |_=>trivial
theorem ff:∀{cs:List (AC0 E N)} {ls:List AQ} {fr:List (Nat×Option (HEnt (std E N)))} {nw:Bool} {k k':Nat},RM.run s (JI (O:=std E N) cs) k=.ok ((ls,fr,nw),k')→FrOK s fr
 | [],ls,fr,nw,k,k',h=>by cases zzc h;exact fun _ _ hm=>by simp at hm
 |c::cs,ls,fr,nw,k,k',h=>by
  obtain⟨⟨l,f1,n1⟩,k1,h1,h2⟩:=zza h;obtain⟨⟨ls2,f2,n2⟩,k2,h3,h4⟩:=zza h2;cases zzc h4;exact(ABJ h1).append (ff h3)
theorem ABF {t:TypeId} {b off:Nat} {l:AQ} {fr:List (Nat×Option (HEnt (std E N)))} {k k':Nat} (h:RM.run s (qj (O:=std E N) P t b off) k=.ok ((l,fr),k')):FrOK s fr:=by
 unfold qj at h
 split at h
 ·rename_i e he;obtain⟨T,hT⟩:∃T,e-ptB=T:=⟨_,rfl⟩;rw[hT]at h;obtain⟨k1,h0⟩:=zzg h
  split at h0
  ·split at h0
   ·obtain⟨_,k2,h1,h2⟩:=zza h0;obtain⟨⟨ls,fr2,nw⟩,k3,h3,h4⟩:=zza h2;cases zzc h4;exact ff h3
   exact(zzb h0).elim
  exact(zzb h0).elim
 exact(zzb h).elim
theorem Tj:∀{args:List (AV (std E N))} {gives:List Bool} {pt:List TypeId} {used u:List Nat} {ls:List AQ} {fr:List (Nat×Option (HEnt (std E N)))} {k k':Nat},RM.run s (Mr (O:=std E N) P gives pt used args) k=.ok ((ls,fr,u),k')→FrOK s fr
  | [],gives,pt,used,u,ls,fr,k,k',h=>by cases zzc h;exact fun _ _ hm=>by simp at hm
  | .tup y::args,gives,pt,used,u,ls,fr,k,k',h=>by
    trivial
  | .val y::args,gives,pt,used,u,ls,fr,k,k',h=>by
    cases hy:fnV y with
    |some fc =>
      obtain⟨f,caps⟩:=fc;have:=qK hy;subst this;obtain⟨ts0,k1,h1,h2⟩:=zza h;obtain⟨cl,k2,h3,h4⟩:=zza h2;obtain⟨⟨ls2,fr2,u2⟩,k3,h5,h6⟩:=zza h4;cases zzc h6;exact Tj (gives:=gives.tail) h5
    |none =>
     cases hz:ptV y with
     |some bo =>
      obtain⟨b,off⟩:=bo;have:=qN hz;subst this;obtain⟨_,k0,h0,h⟩:=zza h;obtain⟨⟨l1,f1⟩,k1,h1,h2⟩:=zza h;obtain⟨⟨ls2,fr2,u2⟩,k2,h3,h4⟩:=zza h2;cases zzc h4;exact(ABF h1).append (Tj (gives:=gives.tail) h3)
     |none =>
      rw[ma hy hz]at h
      split at h
      · obtain⟨⟨ls1,u1⟩,k1,h1,h2⟩:=zza h;obtain⟨⟨ls2,fr2,u2⟩,k2,h3,h4⟩:=zza h2;cases zzc h4;exact Tj h3
      obtain⟨⟨ls1,f1,nw1⟩,k1,h1,h2⟩:=zza h;obtain⟨⟨ls2,fr2,u2⟩,k2,h3,h4⟩:=zza h2;cases zzc h4;exact(ff h1).append (Tj h3)
theorem VM {nw:Bool} {c:List PV}:∀{ts:List TypeId} {j q:Nat} {cs:List (AC0 E N)} {hs:List (Nat×HEnt (std E N))},A0 (O:=std E N) P (fun _=>false) nw c j q ts=some (cs,hs)→hs=[]
 | [],j,q,cs,hs,h=>by simp only[A0]at h;cases h;rfl
 |t::ts,j,q,cs,hs,h=>by
  simp only[A0]at h
  split at h<;>first
   |(obtain⟨⟨r,hh⟩,h1,h2⟩:=zzo.1 h;cases h2;exact VM h1)
   |cases h
theorem Wb {nw:Bool} {c:List PV}:∀{ts:List TypeId} {j q:Nat} {vs:List (Val (std E N))} {hs:List (Nat×HEnt (std E N))},Br (O:=std E N) P (fun _=>false) nw c j q ts=some (vs,hs)→hs=[]
 | [],j,q,vs,hs,h=>by simp only[Br]at h;grind
 |t::ts,j,q,vs,hs,h=>by
  simp only[Br]at h
  split at h
  ·cases h
  split at h
  ·cases h
  rename_i cs h1 hc
  split at h
  ·cases h
  rename_i vs2 h2 hv;cases h;rw[VM hc,Wb hv];rfl
def vJ {α:Type} (g:Option α) (b:Bool):Bool:=match g with
 |none=>b
 |some _=>false
theorem ABc {α:Type} (g:Option α) (ci:CI):AAG g ci.ow=CI.ow { ci with own:=vJ g ci.own }:=by cases g<;>rfl
theorem xD (hΓ:GamOK P E N cfg) {f:FuncId} {fns:List Nat} {ci:CI} (h:(W8 cfg.gam f fns).map (gK cfg)=some ci):(Oz P E N ci∧Oz P E N { ci with own:=false })∧ci.f=f∧ci.fns=fns:=by
 obtain⟨c0,h0,rfl⟩:=zzo.1 h;obtain⟨a1,a2,a3⟩:=mf h0;have hv:=hΓ.ci c0 a1;unfold gK
 split
 ·exact⟨⟨hv c0.own _ id,hv false _ (fun e=>by cases e)⟩,a2,a3⟩
 have e:∀o,({ c0 with own:=o,sk:=c0.sk++[] }:CI)={ c0 with own:=o }:=fun o=>by rw[List.append_nil]
 exact⟨⟨by have:=hv c0.own [] id;rw[e]at this;exact this,by have:=hv false [] (fun e=>by cases e);rw[e]at this;exact this⟩,a2,a3⟩
theorem sQ {ci:CI} (h:Oz P E N ci∧Oz P E N { ci with own:=false }) (g:Option Bool):Oz P E N { ci with own:=vJ g ci.own }:=by
 cases g with
 |none=>exact h.1
 |some b=>exact h.2
theorem yF {q len:Nat} {nw:Bool} {c:AC0 E N} (h:OkC q len nw c):∀n∈c.names,q≤n∧n<q+len:=by
 intro n hn;cases c with
 |own e k=>simp only[AC.names,List.mem_singleton]at hn;subst hn;exact h
 |int _ _=>trivial
 |bool _=>trivial
 |str _=>trivial
 |imm _ _ _=>trivial
 |opq=>trivial
 |_=>exact h.elim
theorem Yu:∀{vs:List (Val (std E N))} {n:Nat},n∈B0 vs→∃v∈vs,n∈AH v.cs
 |v::vs,n,h=>by
  simp only[B0,List.mem_append]at h
  rcases h with h|h
  ·simp_all
  obtain⟨u,hu,hn⟩:=Yu h;grind
theorem vi {q len:Nat} {nw:Bool} {vs:List (Val (std E N))} (h:∀v∈vs,∀x∈v.cs,OkC q len nw x):∀n∈(LI vs).names,q≤n∧n<q+len:=by
 intro n hn;have:∃v∈vs,n∈AH v.cs:=by
  match vs,hn with
  | [x],hn=>exact⟨x,zzl,hn⟩
  | [],hn=>trivial
  |x::y::r,hn=>exact Yu hn
 obtain⟨v,hv,hm⟩:=this;obtain⟨c,hc,hm⟩:=BU.1 hm;exact yF (h v hv c hc) n hm
theorem dR {ops:Array Oper} {o:Oper} {i id:Nat} {done:List Nat} {Q:Exit→Act→World→Prop} {K:Act→World→Prop} {g:Option Bool} {f:FuncId} {fns:List Nat} {ls dm:List AQ} {next:List PV→Option (Wr (std E N))} {wr:Wr (std E N)} {m m':Nat}
    (hΓ:GamOK P E N cfg)
    (hs:Sim P n0 nt β σ s a w) (gi:GI s done) (hg:∀j want d,o.guard=some (j,want)→(ops[j]?).bind (·.dst)=some d→d∈done) (hdst:∀d,o.dst=some d→d∉done∧d<nt)
    (hid:∀n,id≤n→n<id+BW P o→Fresh a s n) (ho:ops[i]?=some o) (h:RM.run s (LC P cfg ops.toList o id) m=.ok (.call g f fns ls dm next,m'))
    {c:List PV} (hm:(match g with|none=>E f fns (ls.map Leaf.pv)|some b=>if b then E f fns (ls.map Leaf.pv)else some (dm.map Leaf.pv))=some c) (hn:next c=some wr)
    (hK:∀a' w',After P n0 nt (fun n=>id≤n∧n<id+BW P o) β σ s a w o.dst wr a' w'→GI (s.apply wr) (o.dst.toList++done)→K a' w'):wpOp P ops Q i K a w:=by
  unfold LC at h;obtain⟨ctx,m1,h1,h2⟩:=zza h;obtain⟨g',m2,h3,h4⟩:=zza h2;obtain⟨c1,c2,c3⟩:=gd hs gi h1 hg;have hnew:∀n,(id≤n∧n<id+BW P o)→Fresh a s n:=fun n h=>hid n h.1 h.2
  have hcases:=O8 h4;clear h4
  rcases hcases with⟨sp,mm,hg0,hsp,h5⟩|⟨mm,h4⟩
  · have hctx:ctx=[]:=Jj (by rw[hg0]at h3;exact h3);subst hctx;obtain⟨as',wr',hr⟩:=US h5;cases hr
  unfold Yc at h4
  split at h4
  · split at h4
    · trivial
    obtain⟨p,m3,h5,h6⟩:=zza h4;obtain⟨v,m4,h7,h8⟩:=zza h6;obtain⟨wr',m5,h9,h10⟩:=zza h8
    split at h10
    · cases zzc h10
    trivial
  · rename_i fop args tys hop;obtain⟨fv,m3,h5,h6⟩:=zza h4
    split at h6
    case h_2=>trivial
    rename_i f' caps
    split at h6
    case h_1=>trivial
    rename_i fn0 hfn0;obtain⟨_,m40,h60,h61⟩:=zza h6;obtain⟨avs,m4,h7,h8⟩:=zza h61
    rcases Qg h8 with⟨_,h9⟩|⟨_,_,_,_,_,_,_,_,h9⟩|⟨hcaps,fns',ci,fn,ls',fr,u,dm',m2,m3,q1,q2,q3,q4,q5,q6,qn,q7,q8,h9⟩
    · cases h9
    · cases h9
    cases h9;subst hcaps;obtain⟨ciM,ciF,ciN⟩:=xD hΓ q2;have hcnt:BW P o=16:=by unfold BW;rw[hop]
    have hfr:=Tj q7;unfold qy at hn
    split at hn
    · cases hn
    rename_i vs nh hb
    split at hn
    case h_2=>cases hn
    rename_i hle;have hle:=Nat.le_of_ble_eq_true hle;cases hn;obtain⟨row1,okh,okc⟩:=T4 hb;generalize hHS:(match ci.nw with|true=>[]|false=>fr)++(u.map (fun n=>(n,none))++nh.map fun (n,h)=>(n,some h))=HS at hK;have hnames:∀n,¬(id≤n∧n<id+BW P o)→n∉(LI vs).names:=fun n hn hm=>hn (by
      have:=vi okc n hm;omega)
    have fin:∀ (z:Value) (w':World) (β':Nat→Option Nat) (σ':Nat→Option (Nat×Nat)),Mem P n0 β' σ' (s.apply { bs:=[],hs:=HS }) w'→Ext P n0 (fun n=>id≤n∧n<id+BW P o) β σ s w β' σ' (s.apply { bs:=[],hs:=HS }) w' →
        Tidy a (fun n=>id≤n∧n<id+BW P o) s (s.apply { bs:=[],hs:=HS }) →
        ((Facts a ctx∧RelAV P n0 β' σ' (s.apply { bs:=[],hs:=HS }) w' (LI vs) z)∨(¬Facts a ctx∧z=undef))→K (a.put o.dst z) w':=fun z w' β' σ' hm hx ht hz=>by
      cases hd:o.dst with
      |some d =>
        rw[hd]at hK;have hdd:=hdst d hd;exact hK _ _ (HE (bs:=[]) hs gi hdd.1 hdd.2 hnew c2 hm hx ht (hz.imp (fun h=>⟨h.1,h.2,fun n _ hn=>hnames n hn⟩) (fun h=>h))) (GI.put gi c2 rfl)
      |none =>
        rw[hd]at hK;refine hK _ _ (Xj hs hnew rfl hm hx ht) ?_;trivial
    by_cases hw:Region.wanted o (yielded ops a.tmps)=true
    · have hf:=c1.1 hw;have hgt:∀ b,g=some b→b=true:=Vn hs hf h3;have hE:E f fns (ls.map Leaf.pv)=some c:=by
        grind
      have hfv:=(Ve hs hf h5).1;have hargs:=eF hs hf h7;have hval:Oz P E N { ci with own:=vJ (Q7 (O:=std E N) cfg g) ci.own }:=sQ ciM (Q7 (O:=std E N) cfg g);have hev:a.eval fop=.func (.func f) #[] #[]:=by
        obtain⟨hr1,hr2⟩:=hfv;have hr2:(a.eval fop).oneCell'=true:=hr2;rw[Bp hr2]at hr1;obtain⟨vs2,e1,e2,_⟩:=hr1.1
        simp_all
      have hnb:fn.body.isNone=false:=by simp_all
      have hex:(execOp a.eval o).run P w=.ok (.enter f (args.map a.eval)) w:=by
        simp only[beq_eq_false_iff_ne,ne_eq]at q5;simp[execOp,hop,resolve,Deferred.ofValue,hev,invoke,callFunc,q3,q5,hnb]
        grind
      rw[ABc (Q7 (O:=std E N) cfg g) ci]at hb;have hcall:=ABR (a:=a) hs.n0le hs.M hs.kept hval (fn:=fn) (by simp_all) hargs q6 (by simp_all) qn q7 q8 (rs:=c) (by simp_all) (id:=id) hb
        (fun n h1 h2=>hid n h1 (by omega)) (wr:={ bs:=[],hs:=HS }) rfl rfl hHS.symm
      unfold wpOp;simp only[ho,hw,if_true];refine .inl ?_;unfold Oper.wp;rw[hex];have harr:(args.toList.map a.eval).toArray=args.map a.eval:=by grind
      rw[harr]at hcall;rw[show({ ci with own:=vJ (Q7 (O:=std E N) cfg g) ci.own }:CI).f=f from ciF]at hcall;refine Calls.mono hcall (fun e w' hp=>?_);cases e with
      |panicked ch=>trivial
      |outgrown=>trivial
      |returned v =>
        obtain⟨σ',r1,r2,r3,r4⟩:=hp;exact fin v w' β σ' r1 (r2.weaken (fun n h=>⟨h.1,by omega⟩)) (r3.weaken (fun n h=>⟨h.1,by omega⟩)) (.inl ⟨hf,r4⟩)
    have hgs:∃b,g=some b:=by
      cases g with
      |none=>exact(hw (c1.2 (by rw[Jj h3];intro n b hm;simp at hm))).elim
      |some b=>simp_all
    obtain⟨b,hgb⟩:=hgs;have hnh:nh=[]:=by rw[hgb,show Q7 (O:=std E N) cfg (some b)=some b by unfold Q7;simp_all]at hb;exact Wb hb
    have hpre:PreOK s HS:=by
      rw[←hHS,hnh];intro n v hm
      rcases List.mem_append.1 hm with hm|hm
      · split at hm
        · simp at hm
        exact .inr (hfr n v hm)
      grind
    have sub:=hpre.sub (wr:={ bs:=[],hs:=HS }) rfl rfl;unfold wpOp;simp only[ho,hw,if_false];exact fin undef w β σ (sub.mem hs.M) (sub.ext P n0 _ β σ w) (Tidy.of_sub hpre rfl rfl rfl _) (.inr ⟨fun h=>hw (c1.2 h),rfl⟩)
  · split at h4
    · obtain⟨⟨as',c',wr'⟩,m3,h5,h6⟩:=zza h4;cases zzc h6
    · obtain⟨c',m3,h5,h6⟩:=zza h4;cases zzc h6
    trivial
  split at h4
  · obtain⟨⟨as',v,fr⟩,m3,h5,h6⟩:=zza h4;obtain⟨fr',m4,h7,h8⟩:=zza h6;cases zzc h8
  trivial
end
section
variable {E:Env} {N:Nat} {P:Program} {cfg:Cfg} {n0 n0':Nz} {nt:Nat} {β β':Nat→Option Nat} {σ σ':Nat→Option (Nat×Nat)} {s s':St0 E N} {a:Act} {w w':World}
structure Post (P:Program) (n0:Nz) (nt L:Nat) (D:Nat→Prop) (β:Nat→Option Nat) (σ:Nat→Option (Nat×Nat)) (s:St0 E N) (a:Act) (w:World)
    (β':Nat→Option Nat) (σ':Nat→Option (Nat×Nat)) (s':St0 E N) (a':Act) (w':World):Prop where
  sim:Sim P n0 nt β' σ' s' a' w'
  ext:Ext P n0 (fun n=>L≤n) β σ s w β' σ' s' w'
  cleanB:∀n e,s'.getB n=some e→e.dirty=false→s.getB n=some e
  cleanH:∀n e,s'.getH n=some e→e.dirty=false→s.getH n=some e
  defers:a'.defers=a.defers
  tmps:∀n,¬D n→a'.tmps.getD n undef=a.tmps.getD n undef
theorem Post.trans {L L':Nat} {D D':Nat→Prop} {β'':Nat→Option Nat} {σ'':Nat→Option (Nat×Nat)} {s'':St0 E N} {a' a'':Act} {w'':World} (h:Post P n0 nt L D β σ s a w β' σ' s' a' w') (k:Post P n0 nt L' D' β' σ' s' a' w' β'' σ'' s'' a'' w'') (hl:L≤L') :
    Post P n0 nt L (fun n=>D n∨D' n) β σ s a w β'' σ'' s'' a'' w'' :=
  ⟨k.sim,(h.ext.trans k.ext).weaken (fun n hn=>hn.elim (fun h=>h) (fun h=>Nat.le_trans hl h)),fun n e h1 h2=>h.cleanB n e (k.cleanB n e h1 h2) h2,fun n e h1 h2=>h.cleanH n e (k.cleanH n e h1 h2) h2,
    k.defers.trans h.defers,fun n hn=>(k.tmps n (fun h=>hn (.inr h))).trans (h.tmps n (fun h=>hn (.inl h)))⟩
theorem UK:∀{as:List Bool} {m:Option (List PV)} {r:List PV},VQ (O:=std E N) as m=some r→(∀b∈as,b=true)∧m=some r
 | [],m,r,h=>⟨fun b hb=>by simp at hb,h⟩
 |b::as,m,r,h=>by
  have h':(cond b (VQ (O:=std E N) as m) none)=some r:=h;cases b
  ·simp at h'
  obtain⟨h1,h2⟩:=UK (as:=as) (by trivial)
  simp_all
def Mh (s:St0 E N) (n:Nat):Prop:=(∀k e,s.getB k=some e→n≠k∧n∉AH e.cs)∧∀k e,s.getH k=some e→n≠k
abbrev Inl (E:Env) (N:Nat):=FuncId→List (AV (std E N))→St0 E N→(AV (std E N)→St0 E N→Option (List PV))→Option (List PV)
def gb (P:Program) (inl:Inl E N):Prop :=
  ∀f (args:List (AV (std E N))) (s:St0 E N) k r,inl f args s k=some r→∀(n0:Nz) β σ (w:World) (vals:List Value),n0.n≤w.heap.size→Mem P n0 β σ s w→Kept P n0 β σ s w →
    (∀n,s.st≤n→Mh s n)→(∀x∈args,∀n∈x.names,n<s.st)→RelArgs P n0 β σ s w args vals →
    Calls P f vals.toArray w fun
      | .returned v,w'=>∃ (av:AV (std E N)) (s':St0 E N) (β':Nat→Option Nat) (σ':Nat→Option (Nat×Nat)),k av s'=some r∧s'.tm=s.tm∧s.st≤s'.st∧Mem P n0 β' σ' s' w'∧Ext P n0 (fun n=>s.st≤n) β σ s w β' σ' s' w' ∧
          (∀n e,s'.getB n=some e→e.dirty=false→s.getB n=some e)∧(∀n e,s'.getH n=some e→e.dirty=false→s.getH n=some e) ∧
          RelAV P n0 β' σ' s' w' av v∧∀n,s'.st≤n→Mh s' n∧n∉av.names
      |_,_=>False
theorem After.post {id:Nat} {dst:Option Nat} {wr:Wr (std E N)} {a':Act} {n:Nat} (h:After P n0 nt (fun k=>id≤k∧k<id+n) β σ s a w dst wr a' w') :
    ∃β' σ',Post P n0 nt id (fun k=>dst=some k) β σ s a w β' σ' (s.apply wr) a' w'∧(∀k,(∀j,id≤j→Fresh a s j)→id+n≤k→Fresh a' (s.apply wr) k):=by
  obtain⟨β',σ',h1,h2,h3,h4,h5,h6,h7⟩:=h;exact⟨β',σ',⟨h1,h2.weaken (fun k h=>h.1),h4,h5,h6,fun k hk=>h7 k hk⟩,fun k hf hk=>h3 k (hf k (by omega)) (by omega)⟩
theorem bK {ops:List Oper}:∀{rest:List Oper} {i:Nat} {bs:List Nat},GH ops i bs rest=true→∀(k:Nat) (o:Oper),rest[k]?=some o→∀j want,o.guard=some (j,want)→j<i+k
 |o::rest,i,b::bs,h,k,o',hk,j,want,hg=>by
  simp only[GH]at h;cases k with
  |zero =>
   simp_all
  |succ k =>
   have h2:GH ops (i+1) bs rest=true:=by
    grind
   have:=bK h2 k o' (by trivial) j want hg;omega
 | [],_,_,_,k,o',hk,_,_,_=>by simp at hk
 |_::_,_,[],h,_,_,_,_,_,_=>by trivial
theorem Lu:∀(a b:List Oper),Am (a++b)=Am a++Am b
 | [],b=>rfl
 |o::a,b=>by
  simp only[List.cons_append,Am,Lu a b];cases o.dst<;>rfl
theorem Hc:∀{l:List Oper} {k:Nat} {o:Oper} {d:Nat},l[k]?=some o→o.dst=some d→d∈Am l
 |x::l,0,o,d,h,hd=>by
  simp at h;subst h;simp[Am,hd]
 |x::l,k+1,o,d,h,hd=>by
  have:=Hc (l:=l) (k:=k) (by trivial) hd;simp only[Am]
  grind
 | [],k,o,d,h,_=>by simp at h
theorem GI.mono {d d':List Nat} (gi:GI s d) (h:∀x∈d,x∈d'):GI s d':=fun n tv hn g hg=>h _ (gi n tv hn g hg)
theorem dH (hs:Sim P n0 nt β σ s a w) {ctx:List (Nat×Bool)} (hf:Facts a ctx):∀ {ts:List TypeId} {xs:List Operand} {vs:List (AV (std E N))} {m m':Nat},RM.run s (Xs (O:=std E N) P ctx ts xs) m=.ok (vs,m') →
    ∀x∈vs,∀n,Fresh a s n→n∉x.names
  | [],[],vs,m,m',h=>by cases zzc h;simp_all
  |t::ts,x::xs,vs,m,m',h=>by
    obtain⟨v,m1,h1,h2⟩:=zza h;obtain⟨r,m2,h3,h4⟩:=zza h2;cases zzc h4;intro y hy
    rcases List.mem_cons.1 hy with rfl|hy
    · exact(Ve hs hf h1).2
    exact dH hs hf h3 y hy
  | [],_::_,_,_,_,h=>(zzb h).elim
  |_::_,[],_,_,_,h=>(zzb h).elim
theorem RelArgs.append:∀{xs ys:List (AV (std E N))} {us vs:List Value},RelArgs P n0 β σ s w xs us→RelArgs P n0 β σ s w ys vs→RelArgs P n0 β σ s w (xs++ys) (us++vs)
 | [],_,[],_,_,h=>h
 |x::xs,_,u::us,_,h,h'=>⟨h.1,RelArgs.append h.2 h'⟩
 | [],_,_::_,_,h,_=>h.elim
 |_::_,_,[],_,h,_=>h.elim
theorem Ext.relArgs (x:Ext P n0 (fun _=>False) β σ s w β' σ' s' w'):∀{xs:List (AV (std E N))} {vs:List Value},RelArgs P n0 β σ s w xs vs→RelArgs P n0 β' σ' s' w' xs vs
 | [],[],h=>h
 |y::xs,v::vs,h=>⟨x.relAV (fun _ _ h=>h) h.1,x.relArgs h.2⟩
 | [],_::_,h=>h.elim
 |_::_,[],h=>h.elim
theorem ACO {c:Cap (std E N)} {v:Value} (h:T8 P n0 β σ s w c v):RelC P n0 β σ s w c.ac v:=by
 cases c with
 |box b o=>exact h
 |row e l =>
  obtain⟨h1,t,ts,blk,boff,len,cap,ht,hts,hr,hv⟩:=h;refine⟨Int.le_refl 0,by simp_all,t,ts,blk,boff,len,cap,ht,hts,hr,?_⟩
  simp_all
theorem pP:∀ {caps:List (Cap (std E N))} {vs:List Value},vs.length=caps.length→(∀ (i:Nat) (c:Cap (std E N)),caps[i]?=some c→∃ x:Value,vs[i]?=some x∧T8 P n0 β σ s w c x) →
    RelArgs P n0 β σ s w (caps.map fun c=>(one c.ac:AV (std E N))) vs
  | [],[],_,_=>trivial
  |c::caps,v::vs,hl,h=>by
    obtain⟨x,hx,hr⟩:=h 0 c rfl;simp at hx;subst hx;exact⟨Ac (ACO hr),pP (by simp_all) (fun i c hc=>by
      obtain⟨y,hy,hr2⟩:=h (i+1) c (by trivial)
      simp_all)⟩
  | [],_::_,hl,_=>by simp at hl
  |_::_,[],hl,_=>by simp at hl
theorem vR {ops:Array Oper} {o:Oper} {id:Nat} {f:FuncId} {args:List (AV (std E N))} {m m':Nat} (h:RM.run s (LC P cfg ops.toList o id) m=.ok (.inl f args,m')) :
    ∃fop cargs tys caps avs fn m1 m2 m3 m4 m5,o.op=.call ⟨.value fop,cargs,tys⟩∧RM.run s (YM (O:=std E N) ops.toList o) m=.ok ([],m1)∧RM.run s (ev (O:=std E N) P [] 0 fop) m2=.ok (.val ⟨false,[.fn f caps]⟩,m3) ∧
      P.funcs[f]? = some fn ∧ fn.body.isSome = true ∧ (fn.name == "runtime.NumGoroutine") = false ∧ RM.run s (Xs (O := std E N) P [] (fn.params.toList.take cargs.size) cargs.toList) m4 = .ok (avs, m5) ∧ args = avs ++ caps.map fun c => one c.ac := by
  unfold LC at h;obtain⟨ctx,m1,h1,h2⟩:=zza h;obtain⟨g',m2,h3,h4⟩:=zza h2;have hcases:=O8 h4;clear h4
  rcases hcases with⟨sp,mm,hg0,hsp,h5⟩|⟨mm,h4⟩
  · obtain⟨as',wr',hr⟩:=US h5;cases hr
  unfold Yc at h4
  split at h4
  · split at h4
    · trivial
    · obtain⟨p,m3,h5,h6⟩:=zza h4;obtain⟨v,m4,h7,h8⟩:=zza h6;obtain⟨wr',m5,h9,h10⟩:=zza h8
      split at h10
      · cases zzc h10
      trivial
  · rename_i fop cargs tys hop;obtain⟨fv,m3,h5,h6⟩:=zza h4
    split at h6
    case h_2=>trivial
    rename_i f' caps
    split at h6
    case h_1=>trivial
    rename_i fn0 hfn0;obtain⟨_,m40,h60,h61⟩:=zza h6;obtain⟨avs,m4,h7,h8⟩:=zza h61;have hg:=zzd h60;simp only[zzj,Bool.not_eq_true']at hg
    rcases Qg h8 with⟨hgn,h9⟩|⟨_,_,_,_,_,_,_,_,h9⟩|⟨hcaps,fns',ci,fn,ls',fr,u,dm',m2,m3,q1,q2,q3,q4,q5,q6,qn,q7,q8,h9⟩
    · subst hgn;have hc:=Jj h3
      grind
    · cases h9
    · cases h9
  · split at h4
    · obtain⟨⟨as',c',wr'⟩,m3,h5,h6⟩:=zza h4;cases zzc h6
    · obtain⟨c',m3,h5,h6⟩:=zza h4;cases zzc h6
    trivial
  · split at h4
    · obtain⟨⟨as',v,fr⟩,m3,h5,h6⟩:=zza h4;obtain⟨fr',m4,h7,h8⟩:=zza h6;cases zzc h8
    trivial
theorem tG {ops:Array Oper} {o:Oper} {id:Nat} {g:Bool} {f:FuncId} {args:List (AV (std E N))} {w0:Wr (std E N)} {m m':Nat} (h:RM.run s (LC P cfg ops.toList o id) m=.ok (.inlg g f args w0,m')) :
    ∃fop cargs tys caps avs fn n want d z m1 m2 m3 m4 m5 m6,o.op=.call ⟨.value fop,cargs,tys⟩∧RM.run s (YM (O:=std E N) ops.toList o) m=.ok ([(n,want)],m1)∧RM.run s (Wg (O:=std E N) [(n,want)]) m1=.ok (some g,m6)∧RM.run s (ev (O:=std E N) P [(n,want)] 0 fop) m2=.ok (.val ⟨false,[.fn f caps]⟩,m3) ∧
      P.funcs[f]? = some fn ∧ fn.body.isSome = true ∧ (fn.name == "runtime.NumGoroutine") = false ∧ RM.run s (Xs (O := std E N) P [(n, want)] (fn.params.toList.take cargs.size) cargs.toList) m4 = .ok (avs, m5) ∧ args = (avs ++ caps.map fun c => one c.ac) ∧
      o.dst=some d∧w0={ ts:=[(d,some ⟨[(n,want)],.val z⟩)] }:=by
  unfold LC at h;obtain⟨ctx,m1,h1,h2⟩:=zza h;obtain⟨g',m2,h3,h4⟩:=zza h2;have hcases:=O8 h4;clear h4
  rcases hcases with⟨sp,mm,hg0,hsp,h5⟩|⟨mm,h4⟩
  · obtain⟨as',wr',hr⟩:=US h5;cases hr
  unfold Yc at h4
  split at h4
  · split at h4
    · trivial
    · obtain⟨p,m3,h5,h6⟩:=zza h4;obtain⟨v,m4,h7,h8⟩:=zza h6;obtain⟨wr',m5,h9,h10⟩:=zza h8
      split at h10
      · cases zzc h10
      trivial
  · rename_i fop cargs tys hop;obtain⟨fv,m3,h5,h6⟩:=zza h4
    split at h6
    case h_2=>trivial
    rename_i f' caps
    split at h6
    case h_1=>trivial
    rename_i fn0 hfn0;obtain⟨_,m40,h60,h61⟩:=zza h6;obtain⟨avs,m4,h7,h8⟩:=zza h61;have hg:=zzd h60;simp only[zzj,Bool.not_eq_true']at hg
    rcases Qg h8 with⟨hgn,h9⟩|⟨b,n,want,d',z,r1,r2,r3,h9⟩|⟨hcaps,fns',ci,fn,ls',fr,u,dm',m2,m3,q1,q2,q3,q4,q5,q6,qn,q7,q8,h9⟩
    · cases h9
    · grind
    · cases h9
  · split at h4
    · obtain⟨⟨as',c',wr'⟩,m3,h5,h6⟩:=zza h4;cases zzc h6
    · obtain⟨c',m3,h5,h6⟩:=zza h4;cases zzc h6
    trivial
  · split at h4
    · obtain⟨⟨as',v,fr⟩,m3,h5,h6⟩:=zza h4;obtain⟨fr',m4,h7,h8⟩:=zza h6;cases zzc h8
    trivial
theorem wB (hs:Sim P n0 nt β σ s a w) {ops:List Oper} {o:Oper} {n:Nat} {want:Bool} {k k' m m':Nat} (hctx:RM.run s (YM (O:=std E N) ops o) k=.ok ([(n,want)],k'))
    (h:RM.run s (Wg (O:=std E N) [(n,want)]) m=.ok (some true,m')):Facts a [(n,want)]:=by
  unfold YM at hctx
  split at hctx
  · cases zzc hctx
  split at hctx
  · rename_i d hd;obtain⟨k1,hctx⟩:=zze hctx;cases ht:s.getT d with
    |none=>rw[ht]at hctx;trivial
    |some tv =>
      rw[ht]at hctx;have e:=zzc hctx;simp only[List.cons.injEq,Prod.mk.injEq]at e;obtain⟨⟨rfl,rfl⟩,e3⟩:=e;obtain⟨m1,h⟩:=zze h;rw[ht]at h;simp only at h
      split at h
      · rename_i gs b heq;cases heq;simp only at e3;subst e3;obtain ⟨g1,m2,h1,h2⟩:=zza h;cases zzc h1;have e4:=zzc h2;intro n' b' hm;simp only [List.mem_cons,Prod.mk.injEq,List.not_mem_nil,or_false] at hm;obtain ⟨rfl,rfl⟩:=hm;have hb:a.tmps.getD n' undef=.bool b:=by
          rcases hs.T n' _ ht with⟨_,hr⟩|⟨hu,_⟩
          · obtain⟨r1,r2⟩:=hr;simp only at r2;rw[Bp r2]at r1;exact r1.1
          exact(hu (fun _ _ hm=>by simp at hm)).elim
        grind
      trivial
  trivial
theorem AA4 (hs:Sim P n0 nt β σ s a w) {done:List Nat} (gi:GI s done) {d:Nat} (hd:d∉done) (hdn:d<nt) {new:Nat→Prop} (hnew:∀ n,new n→Fresh a s n) {s2:St0 E N} (htm:s2.tm=s.tm)
    (x:Ext P n0 new β σ s w β' σ' s2 w') (m:Mem P n0 β' σ' s2 w') {av:AV (std E N)} {z:Value} (hr:RelAV P n0 β' σ' s2 w' av z) :
    Sim P n0 nt β' σ' { s2 with tm:=GT s2.tm d (some ⟨[],av⟩) } (a.put (some d) z) w':=by
  have gT:∀n,({ s2 with tm:=GT s2.tm d (some ⟨[],av⟩) }:St0 E N).getT n=if n=d∧d<Fg then some ⟨[],av⟩else s.getT n:=fun n=>by
    unfold State.getT;rw[←htm];exact ER _ _ _ _
  have sub:Sub s2 ({ s2 with tm:=GT s2.tm d (some ⟨[],av⟩) }:St0 E N):=Sub.of_same (fun _=>rfl) (fun _=>rfl);have x2:=sub.ext P n0 (fun _=>False) β' σ' w';have ne:∀{g:Nat×Bool},g.1∈done→g.1≠d:=fun hg e=>hd (e▸hg)
  refine⟨Nat.le_trans hs.n0le x.size,by simp[Act.put,hs.size],fun n tv hn=>?_,sub.mem m,(hs.kept.ext x).ext x2⟩;rw[gT]at hn
  split at hn
  · rename_i he;cases hn;rw[he.1,Mm (by rw[hs.size];exact hdn)];exact .inl ⟨fun n b hm=>by simp at hm,x2.relAV (fun _ _ h=>h) hr⟩
  rename_i he;have hnd:n≠d:=fun e=>by
    by_cases hb:d<Fg
    · omega
    rw[e,o5 hb]at hn;cases hn
  rw[Fp hnd];have hg:∀g∈tv.gs,g.1≠d:=fun g hg=>ne (gi n tv hn g hg)
  rcases hs.T n tv hn with⟨h1,h2⟩|⟨h1,h2⟩
  · exact .inl ⟨(HH hg).2 h1,x2.relAV (fun _ _ h=>h) (x.relAV (fun k hk hnw=>(hnew k hnw).t n tv hn h1 hk) h2)⟩
  exact .inr ⟨fun h=>h1 ((HH hg).1 h),h2⟩
theorem Sm (inl:Inl E N) (hInl:gb P inl) (hΓ:GamOK P E N cfg) {ops:Array Oper} (hnd:(Am ops.toList).Nodup)
    (hg:∀(k:Nat) (o:Oper),ops.toList[k]?=some o→∀j want,o.guard=some (j,want)→j<k) (hdn:∀d∈Am ops.toList,d<nt) {Q:Exit→Act→World→Prop} {r:List PV} :
    ∀(rest pre:List Oper) (id:Nat) (s:St0 E N) (ms:List (Nat×Nat)) (k:St0 E N→List (Nat×Nat)→Option (List PV)) (β:Nat→Option Nat) (σ:Nat→Option (Nat×Nat)) (a:Act) (w:World),ops.toList=pre++rest →
      EE (O:=std E N) P cfg inl ops.toList false rest id s ms k=some r→Sim P n0 nt β σ s a w→GI s (Am pre)→(∀n,id≤n→Fresh a s n) →
      (∀(s':St0 E N) (ms':List (Nat×Nat)) (id':Nat) (β':Nat→Option Nat) (σ':Nat→Option (Nat×Nat)) (a':Act) (w':World),k { s' with st:=id' } ms'=some r→Post P n0 nt id (fun n=>n∈Am rest) β σ s a w β' σ' s' a' w'→id≤id'→(∀n,id'≤n→Fresh a' s' n)→GI s' (Am ops.toList)→Q .normal a' w') →
      wpOps P ops Q (List.range' pre.length rest.length) a w
  | [],pre,id,s,ms,k,β,σ,a,w,hops,h,hs,gi,hf,hQ=>by
    have:EE (O:=std E N) P cfg inl ops.toList false [] id s ms k=k { s with st:=id } ms:=rfl;rw[this]at h;refine hQ s ms id β σ a w h ⟨hs,Ext.refl _ _ _ _ _ _ _,fun n e h _=>h,fun n e h _=>h,rfl,fun _ _=>rfl⟩ (Nat.le_refl _) hf ?_
    simp_all
  |o::rest,pre,id,s,ms,k,β,σ,a,w,hops,h,hs,gi,hf,hQ=>by
    have hgetL:ops.toList[pre.length]?=some o:=by simp_all
    have hget:ops[pre.length]?=some o:=by grind
    have hdl:Am ops.toList=Am pre++(o.dst.toList++Am rest):=by
      rw[hops,Lu];congr 1;simp only[Am]
      grind
    rw[hdl]at hnd;have hnd2:=(List.nodup_append.1 hnd);have hdone:∀j want d,o.guard=some (j,want)→(ops[j]?).bind (·.dst)=some d→d∈Am pre:=fun j want d h1 h2=>by
      have hj:=hg pre.length o hgetL j want h1;obtain⟨x,hx,hxd⟩:=Option.bind_eq_some_iff.1 h2;rw[←Array.getElem?_toList,hops,List.getElem?_append_left hj]at hx;exact Hc hx hxd
    have hdst:∀d,o.dst=some d→d∉Am pre∧d<nt:=fun d hd=>by
      refine⟨fun hm=>hnd2.2.2 d hm d (by simp[hd]) rfl,hdn d (by simp_all)⟩
    have hpre2:ops.toList=(pre++[o])++rest:=by simp_all
    have hlen:(pre++[o]).length=pre.length+1:=by simp
    have hgi2:∀{s':St0 E N},GI s' (o.dst.toList++Am pre)→GI s' (Am (pre++[o])):=fun {s'} g=>g.mono (fun x hx=>by
      rw[Lu]
      rcases List.mem_append.1 hx with h|h
      · refine List.mem_append_right _ ?_;simp only[Am]
        simp_all
      simp_all)
    have next:∀ (wr:Wr (std E N)) (ms2:List (Nat×Nat)),EE (O:=std E N) P cfg inl ops.toList false rest (id+BW P o) (s.apply wr) ms2 k=some r→∀ a' w',After P n0 nt (fun n=>id≤n∧n<id+BW P o) β σ s a w o.dst wr a' w'→GI (s.apply wr) (o.dst.toList++Am pre) →
        wpOps P ops Q (List.range' (pre.length+1) rest.length) a' w':=fun wr ms2 h a' w' ha hg2=>by
      obtain⟨β',σ',p1,p2⟩:=ha.post;rw[←hlen];refine Sm inl hInl hΓ (by simp_all) hg hdn rest (pre++[o]) (id+BW P o) (s.apply wr) ms2 k β' σ' a' w' hpre2 h p1.sim (hgi2 hg2) (fun n hn=>p2 n hf hn) (fun s' ms' id' β'' σ'' a'' w'' hk hp hle hf' hg'=>?_);have hpt:=p1.trans hp (Nat.le_add_right _ _);refine hQ s' ms' id' β'' σ'' a'' w'' hk ⟨hpt.sim,hpt.ext,hpt.cleanB,hpt.cleanH,hpt.defers,fun n hn=>hpt.tmps n (fun h=>hn ?_)⟩ (by omega) hf' hg';simp only[Am]
      grind
    have doInl:∀ (ctx:List (Nat×Bool)) (f:FuncId) (fop:Operand) (cargs:Array Operand) (tys:Array TypeId) (caps:List (Cap (std E N))) (avs:List (AV (std E N))) (fn:Func) (m2 m3 m4 m5:Nat),Facts a ctx→Region.wanted o (yielded ops a.tmps)=true→o.op=.call ⟨.value fop,cargs,tys⟩ →
        RM.run s (ev (O := std E N) P ctx 0 fop) m2 = .ok (.val ⟨false, [.fn f caps]⟩, m3) → P.funcs[f]? = some fn → fn.body.isSome = true → (fn.name == "runtime.NumGoroutine") = false → RM.run s (Xs (O := std E N) P ctx (fn.params.toList.take cargs.size) cargs.toList) m4 = .ok (avs, m5) →
        inl f (avs++caps.map fun c=>one c.ac) { s with st:=id+BW P o } (fun v s'=>EE (O:=std E N) P cfg inl ops.toList false rest s'.st (match o.dst with|some d=>{ s' with tm:=GT s'.tm d (some ⟨[],v⟩) } | none=>s') (ms++[(0,0)]) k)=some r →
        wpOp P ops Q pre.length (wpOps P ops Q (List.range' (pre.length+1) rest.length)) a w:=fun ctx f fop cargs tys caps avs fn m2 m3 m4 m5 hf0 hw hop hev hfn hbody hname hall h=>by
      obtain⟨hv1,hvn⟩:=Ve hs hf0 hev;have hargs:=eF hs hf0 hall;have hnm:=dH hs hf0 hall;obtain⟨vs,e1,e2,e3⟩:∃vs:List Value,a.eval fop=.func (.func f) #[] vs.toArray∧vs.length=caps.length∧∀(i:Nat) (c:Cap (std E N)),caps[i]?=some c→∃x:Value,vs[i]?=some x∧T8 P n0 β σ s w c x:=by
        obtain⟨hr1,hr2⟩:=hv1;have hr2:(a.eval fop).oneCell'=true:=hr2;rw[Bp hr2]at hr1;exact hr1.1
      have hnb:fn.body.isNone=false:=by simp_all
      have hex:(execOp a.eval o).run P w=.ok (.enter f (cargs.map a.eval++vs.toArray)) w:=by
        simp only[beq_eq_false_iff_ne,ne_eq]at hname;simp[execOp,hop,resolve,Deferred.ofValue,e1,invoke,callFunc,hfn,hname,hnb]
        grind
      have subst0:Sub s ({ s with st:=id+BW P o }:St0 E N):=Sub.of_same (fun _=>rfl) (fun _=>rfl);have hcall:=hInl f _ _ _ r h n0 β σ w (cargs.toList.map a.eval++vs) hs.n0le (subst0.mem hs.M) (hs.kept.ext (subst0.ext P n0 (fun _=>False) β σ w)) (fun n hn=>⟨fun q e he=>(hf n (by grind)).b q e he,fun q e he=>(hf n (by grind)).h q e he⟩)
        (fun x hx n hn=>by
          rcases Nat.lt_or_ge n (id+BW P o)with h|h
          · exact h
          · have hfn:=hf n (by omega)
            rcases List.mem_append.1 hx with hx|hx
            · simp_all
            · obtain⟨p,hp,rfl⟩:=List.mem_map.1 hx;refine(hvn n hfn ?_).elim;simp only[AV.names,AH,AC.names,List.append_nil];cases p with
              |box b o =>
                have:n=b:=by simpa[AV.names,one,AH,AC.names,Cap.ac] using hn
                subst this;obtain⟨i,hi,e⟩:=List.mem_iff_getElem.1 hp;exact Tp (i:=i) (by rw[zzn hi,e])
              |row e l=>trivial)
        (by
          exact(subst0.ext P n0 (fun _=>False) β σ w).relArgs (RelArgs.append hargs (pP (n0:=n0) (P:=P) (σ:=σ) (w:=w) e2 e3)))
      unfold wpOp;simp only[hget,hw,if_true];refine .inl ?_;unfold Oper.wp;rw[hex];have harr:(cargs.toList.map a.eval++vs).toArray=cargs.map a.eval++vs.toArray:=by simp_all
      rw[harr]at hcall;refine Calls.mono hcall (fun e w' hp=>?_);cases e with
      |panicked ch=>trivial
      |outgrown=>trivial
      |returned v =>
        obtain⟨av,s2,β',σ',hk,htm,hst,hm,hx,hcb,hch,hrel,hfr⟩:=hp;have hst':id+BW P o≤s2.st:=hst;have x0:Ext P n0 (fun n=>id≤n) β σ s w β' σ' s2 w':=((subst0.ext P n0 (fun _=>False) β σ w).trans hx).weaken (fun n h=>h.elim (fun h=>h.elim) (fun h=>by grind));have hnew:∀n,id≤n→Fresh a s n:=hf;have gT2:∀n,s2.getT n=s.getT n:=fun n=>by unfold State.getT;simp_all
        rw [← hlen];have tail:∀ (s3:St0 E N) (a3:Act),EE (O:=std E N) P cfg inl ops.toList false rest s2.st s3 (ms++[(0,0)]) k=some r→Post P n0 nt id (fun n=>o.dst=some n) β σ s a w β' σ' s3 a3 w'→GI s3 (o.dst.toList++Am pre)→(∀ n,s2.st≤n→Fresh a3 s3 n) →
            wpOps P ops Q (List.range' (pre++[o]).length rest.length) a3 w':=fun s3 a3 hk3 hp3 hg3 hf3=>by
          refine Sm inl hInl hΓ (by simp_all) hg hdn rest (pre++[o]) s2.st s3 (ms++[(0,0)]) k β' σ' a3 w' hpre2 hk3 hp3.sim (hgi2 hg3) hf3 (fun s' ms' id' β'' σ'' a'' w'' hkk hpp hle hf' hg'=>?_);have hpt:=hp3.trans hpp (by omega);refine hQ s' ms' id' β'' σ'' a'' w'' hkk ⟨hpt.sim,hpt.ext,hpt.cleanB,hpt.cleanH,hpt.defers,fun n hn=>hpt.tmps n (fun h=>hn ?_)⟩ (by omega) hf' hg';simp only[Am]
          grind
        cases hd:o.dst with
        |none =>
          rw[hd]at hk tail;refine tail s2 a hk ⟨⟨Nat.le_trans hs.n0le x0.size,hs.size,fun n tv hn=>?_,hm,hs.kept.ext x0⟩,x0,hcb,hch,rfl,fun _ _=>rfl⟩ (fun n tv hn=>gi n tv (by simp_all)) (fun n hn=>⟨fun q tv hq hg=>?_,(hfr n hn).1.1,(hfr n hn).1.2⟩)
          · rw[gT2]at hn
            rcases hs.T n tv hn with⟨h1,h2⟩|⟨h1,h2⟩
            · exact .inl ⟨h1,x0.relAV (fun q hq hnw=>(hnew q hnw).t n tv hn h1 hq) h2⟩
            · exact .inr ⟨h1,h2⟩
          · rw[gT2]at hq;exact(hf n (by omega)).t q tv hq hg
        |some d =>
          rw[hd]at hk tail;have hdd:=hdst d hd;have gT3:∀n,({ s2 with tm:=GT s2.tm d (some ⟨[],av⟩) }:St0 E N).getT n=if n=d∧d<Fg then some ⟨[],av⟩else s.getT n:=fun n=>by
            unfold State.getT;rw[←show s2.tm=s.tm from htm];exact ER _ _ _ _
          refine tail { s2 with tm:=GT s2.tm d (some ⟨[],av⟩) } (a.put (some d) v) hk ⟨AA4 hs gi hdd.1 hdd.2 hnew htm x0 hm hrel,?_,hcb,hch,rfl,fun n hn=>Fp (fun e=>hn (by rw[e]))⟩ (fun n tv hn g hg=>?_) (fun n hn=>⟨fun q tv hq hg=>?_,(hfr n hn).1.1,(hfr n hn).1.2⟩)
          · exact(x0.trans ((Sub.of_same (s:=s2) (s':={ s2 with tm:=GT s2.tm d (some ⟨[],av⟩) }) (fun _=>rfl) (fun _=>rfl)).ext P n0 (fun _=>False) β' σ' w')).weaken (fun n h=>h.elim (fun h=>h) (fun h=>h.elim))
          · rw[gT3]at hn
            split at hn
            · grind
            · exact List.mem_append_right _ (gi n tv hn g hg)
          · rw[gT3]at hq
            split at hq
            · grind
            · rename_i hne;exact(hf n (by omega)).t q tv hq ((HH (d:=d) (v:=v) (fun g hg2 e=>hdd.1 (by have:=gi q tv hq g hg2;simp_all))).1 hg)
    rw[List.length_cons,List.range'_succ,wpOps_cons];unfold EE at h
    split at h
    · cases h
    · rename_i as wr rd hrun;obtain⟨has,h2⟩:=UK h;exact ah hΓ.shf hs gi hdone hdst (fun n h1 _=>hf n h1) hget hrun has (fun a' w' ha hg2=>next wr _ h2 a' w' ha hg2)
    · rename_i g f fns args dm nx rd hrun;obtain⟨c,hc,h2⟩:=Option.bind_eq_some_iff.1 h
      split at h2
      · cases h2
      · rename_i wr hn;exact dR hΓ hs gi hdone hdst (fun n h1 _=>hf n h1) hget hrun (c:=c) (by
          grind) hn (fun a' w' ha hg2=>next wr _ h2 a' w' ha hg2)
    · rename_i f args rd hrun;obtain⟨fop,cargs,tys,caps,avs,fn,m1,m2,m3,m4,m5,hop,hctx,hev,hfn,hbody,hname,hall,rfl⟩:=vR hrun;have hf0:Facts a []:=fun n b hm=>by simp at hm
      exact doInl [] f fop cargs tys caps avs fn _ _ _ _ hf0 ((gd hs gi hctx hdone).1.2 hf0) hop hev hfn hbody hname hall h
    · rename_i g f args w0 rd hrun;obtain⟨fop,cargs,tys,caps,avs,fn,n,want,d,z,m1,m2,m3,m4,m5,m6,hop,hctx,hgb,hev,hfn,hbody,hname,hall,rfl,hd,rfl⟩:=tG hrun;obtain⟨c1,c2,c3⟩:=gd hs gi hctx hdone
      by_cases hw:Region.wanted o (yielded ops a.tmps)=true
      · have hf0:=c1.1 hw;have hg1:=Vn hs hf0 hgb g rfl;subst hg1;exact doInl _ f fop cargs tys caps avs fn _ _ _ _ hf0 hw hop hev hfn hbody hname hall h
      · have hgf:g=false:=by
          cases hgv:g with
          |false=>rfl
          |true =>
            rw[hgv]at hgb;exact(hw (c1.2 (wB hs hctx hgb))).elim
        subst hgf;have sub:Sub s (s.apply ({}:Wr (std E N))):=Sub.of_same (fun n=>State.getB_apply0 s _ rfl n) (fun n=>State.getH_apply0 s _ rfl n);have hdd:=hdst d hd;unfold wpOp;simp only[hget,hw];have hK:=next { ts:=[(d,some ⟨[(n,want)],.val z⟩)] } _ h (a.put (some d) undef) w (by
          rw[hd];exact HE (bs:=[]) (hh:=[]) hs gi hdd.1 hdd.2 (fun n h=>hf n h.1) c2 (sub.mem hs.M) (sub.ext P n0 _ β σ w) (Tidy.of_sub (fr:=[]) (fun _ _ h=>by simp at h) rfl rfl rfl _) (.inr ⟨fun h=>hw (c1.2 h),rfl⟩)) (by rw[hd];exact GI.put gi c2 rfl)
        simp_all
end
section
variable {E:Env} {N:Nat} {P:Program} {cfg:Cfg} {n0 n0':Nz} {nt:Nat} {β β':Nat→Option Nat} {σ σ':Nat→Option (Nat×Nat)} {s s':St0 E N} {a:Act} {w w':World}
theorem Z9 {O:Alg}:∀ (d:Nat) (t:TM (TV O)) (n:Nat),TM.get d (FY t) n=match TM.get d t n with
    |some tv=>match tv.gs with
      | []=>some tv
      |_=>none
    |none=>none
  |0,.e,n=>rfl
  |0,.leaf tv,n=>by
    cases h:tv.gs<;>simp[FY,h,TM.get]
  |0,.node l r,n=>rfl
  |d+1,.e,n=>rfl
  |d+1,.leaf tv,n=>by
    cases h:tv.gs<;>simp[FY,h,TM.get]
  |d+1,.node l r,n=>by
    simp only[FY,TM.get];cases h:Nat.beq (n%2) 0
    · exact Z9 d r (n / 2)
    exact Z9 d l (n / 2)
structure WF (s:St0 E N):Prop where
 fresh:∀n,s.st≤n→Mh s n∧∀k tv,s.getT k=some tv→n∉tv.v.names
 gs:∀n tv,s.getT n=some tv→tv.gs=[]
theorem WF.gi (h:WF s):GI s []:=fun n tv hn g hg=>by rw[h.gs n tv hn]at hg;simp at hg
theorem WF.free (h:WF s) (a:Act):∀n,s.st≤n→Fresh a s n:=fun n hn=>⟨fun k tv hk _=>(h.fresh n hn).2 k tv hk,(h.fresh n hn).1.1,(h.fresh n hn).1.2⟩
theorem sU (s:St0 E N) (q n:Nat):({ s with tm:=FY s.tm,st:=q }:St0 E N).getT n=match s.getT n with
    |some tv=>match tv.gs with
      | []=>some tv
      |_=>none
    |none=>none:=by
  unfold State.getT DR;cases Nat.blt n Fg
  · rfl
  show TM.get cV (FY s.tm) n=_;rw[Z9]
  grind
theorem Hd {q n:Nat} {tv:TV (std E N)} (h:({ s with tm:=FY s.tm,st:=q }:St0 E N).getT n=some tv):s.getT n=some tv∧tv.gs=[]:=by
 rw[sU]at h
 grind
theorem Sim.purged (hs:Sim P n0 nt β σ s a w) (q:Nat):Sim P n0 nt β σ { s with tm:=FY s.tm,st:=q } a w:=by
 have sub:Sub s ({ s with tm:=FY s.tm,st:=q }:St0 E N):=Sub.of_same (fun _=>rfl) (fun _=>rfl);refine⟨hs.n0le,hs.size,fun n tv hn=>?_,sub.mem hs.M,hs.kept.ext (sub.ext P n0 (fun _=>False) β σ w)⟩;obtain⟨h1,h2⟩:=Hd hn
 rcases hs.T n tv h1 with⟨h3,h4⟩|⟨h3,h4⟩
 ·exact .inl ⟨h3,(sub.ext P n0 (fun _=>False) β σ w).relAV (fun _ _ h=>h) h4⟩
 exact .inr ⟨h3,h4⟩
theorem O3:∀{l:List Nat},iJ l=true→l.Nodup
 | [],_=>List.nodup_nil
 |n::l,h=>by
  simp only[iJ,zzj,Bool.not_eq_true']at h;exact List.nodup_cons.2 ⟨fun hm=>(by have:=Cd.2 hm;simp_all),O3 h.2⟩
theorem N1:∀{l:List Oper},Mc nt l=true→∀d∈Am l,d<nt
 | [],_,d,hd=>by trivial
 |o::l,h,d,hd=>by
  simp only[Mc,zzj]at h;simp only[Am]at hd;cases ho:o.dst with
  |none=>rw[ho]at hd;exact N1 h.2 d hd
  |some x =>
   rw[ho]at hd h
   rcases List.mem_cons.1 hd with rfl|hd
   ·simp_all
   exact N1 h.2 d hd
theorem wC (inl:Inl E N) (hInl:gb P inl) (hΓ:GamOK P E N cfg) {ops:Array Oper} {rid:Nat} (hdn:Mc nt ops.toList=true) {Q:Exit→Act→World→Prop} {r:List PV}
    {k:St0 E N→Option (List PV)} (h:Kv (O:=std E N) P cfg inl ops.toList false s k=some r) (hs:Sim P n0 nt β σ s a w) (wf:WF s)
    (hQ:∀(s':St0 E N) (β':Nat→Option Nat) (σ':Nat→Option (Nat×Nat)) (a':Act) (w':World),k s'=some r→Post P n0 nt s.st (fun n=>n∈Am ops.toList) β σ s a w β' σ' s' a' w'→WF s'→s.st≤s'.st→Q .normal a' w') :
    (Code.region rid ops false).wp P Q a w:=by
  unfold Kv at h
  split at h
  · cases h
  rename_i hok;simp only[zzj]at hok;have hg:=bK hok.2.1;simp only[Bool.false_and]at h;refine wp_region ?_;have hr:List.range ops.size=List.range' ([]:List Oper).length ops.toList.length:=by simp[List.range_eq_range']
  rw[hr];refine Sm inl hInl hΓ (O3 hok.1) (fun k o ho j want hgd=>by grind) (N1 hdn) ops.toList [] s.st s [] _ β σ a w rfl h hs wf.gi (wf.free a) (fun s' ms' id' β' σ' a' w' hk hp hle hf hgi=>?_);have wf':WF ({ s' with tm:=FY s'.tm,st:=id' }:St0 E N):=⟨fun n hn=>⟨⟨(hf n hn).b,(hf n hn).h⟩,fun k tv hk=>by
    obtain⟨h1,h2⟩:=Hd hk;exact(hf n hn).t k tv h1 (fun m b hm=>by simp_all)⟩,fun n tv hn=>(Hd hn).2⟩
  have sub:Sub s' ({ s' with tm:=FY s'.tm,st:=id' }:St0 E N):=Sub.of_same (fun _=>rfl) (fun _=>rfl);exact hQ _ β' σ' a' w' hk ⟨hp.sim.purged id',(hp.ext.trans (sub.ext P n0 (fun _=>False) β' σ' w')).weaken (fun n h=>h.elim (fun h=>h) (fun h=>h.elim)),hp.cleanB,hp.cleanH,hp.defers,hp.tmps⟩ wf' hle
end
section
variable {E:Env} {N:Nat} {P:Program} {cfg:Cfg} {n0 n0':Nz} {nt:Nat} {β β':Nat→Option Nat} {σ σ':Nat→Option (Nat×Nat)} {s s' s2:St0 E N} {a:Act} {w w':World}
def Cl (s:St0 E N) (p:Nat):Option (TV (std E N))×Option (BEnt (std E N))×Option (HEnt (std E N)) :=
  (if p%3=0 then s.getT (p / 3)else none,if p%3=1 then s.getB (p / 3)else none,if p%3=2 then s.getH (p / 3)else none)
def Same (s s':St0 E N):Prop:=∀p,Cl s p=Cl s' p
theorem wz {n:Nat} (h:Cl s (3*n)=Cl s' (3*n)):s.getT n=s'.getT n:=by
 have h0:(3*n)%3=0:=by omega
 have h1:(3*n) / 3=n:=by omega
 have:=congrArg (fun x=>x.1) h;simpa[Cl,h0,h1] using this
theorem wU {n:Nat} (h:Cl s (3*n+1)=Cl s' (3*n+1)):s.getB n=s'.getB n:=by
 have h0:(3*n+1)%3=1:=by omega
 have h1:(3*n+1) / 3=n:=by omega
 have:=congrArg (fun x=>x.2.1) h;simpa[Cl,h0,h1] using this
theorem xT {n:Nat} (h:Cl s (3*n+2)=Cl s' (3*n+2)):s.getH n=s'.getH n:=by
 have h0:(3*n+2)%3=2:=by omega
 have h1:(3*n+2) / 3=n:=by omega
 have:=congrArg (fun x=>x.2.2) h;simpa[Cl,h0,h1] using this
theorem Same.T (h:Same s s') (n:Nat):s.getT n=s'.getT n:=wz (h _)
theorem Same.B (h:Same s s') (n:Nat):s.getB n=s'.getB n:=wU (h _)
theorem Same.H (h:Same s s') (n:Nat):s.getH n=s'.getH n:=xT (h _)
theorem Same.refl (s:St0 E N):Same s s:=fun _=>rfl
theorem Same.symm (h:Same s s'):Same s' s:=fun p=>(h p).symm
theorem Same.trans (h:Same s s') (k:Same s' s2):Same s s2:=fun p=>(h p).trans (k p)
theorem Same.sub (h:Same s s'):Sub s s':=Sub.of_same (fun n=>(h.B n).symm) (fun n=>(h.H n).symm)
theorem Same.of (hT:∀n,s.getT n=s'.getT n) (hB:∀n,s.getB n=s'.getB n) (hH:∀n,s.getH n=s'.getH n):Same s s':=fun p=>by
 simp only[Cl,hT,hB,hH]
theorem Sim.same (hs:Sim P n0 nt β σ s a w) (h:Same s s'):Sim P n0 nt β σ s' a w :=
 ⟨hs.n0le,hs.size,fun n tv hn=>by
  rw[←h.T]at hn
  rcases hs.T n tv hn with⟨h1,h2⟩|h1
  ·exact .inl ⟨h1,(h.sub.ext P n0 (fun _=>False) β σ w).relAV (fun _ _ h=>h) h2⟩
  exact .inr h1,h.sub.mem hs.M,hs.kept.ext (h.sub.ext P n0 (fun _=>False) β σ w)⟩
theorem Fresh.same {n:Nat} (hf:Fresh a s n) (h:Same s s'):Fresh a s' n :=
 ⟨fun k tv hk=>hf.t k tv (by rw[h.T];exact hk),fun k e hk=>hf.b k e (by rw[h.B];exact hk),fun k e hk=>hf.h k e (by rw[h.H];exact hk)⟩
theorem GI.same {done:List Nat} (gi:GI s done) (h:Same s s'):GI s' done:=fun n tv hn=>gi n tv (by rw[h.T];exact hn)
theorem Post.same {L:Nat} {D:Nat→Prop} {a':Act} (p:Post P n0 nt L D β σ s a w β' σ' s' a' w') (h:Same s' s2):Post P n0 nt L D β σ s a w β' σ' s2 a' w' :=
 ⟨p.sim.same h,(p.ext.trans (h.sub.ext P n0 (fun _=>False) β' σ' w')).weaken (fun n hn=>hn.elim (fun h=>h) (fun h=>h.elim)),fun n e he=>p.cleanB n e (by rw[h.B];exact he),fun n e he=>p.cleanH n e (by rw[h.H];exact he),p.defers,p.tmps⟩
theorem Gt {k p:Nat}:(C7 k).testBit p=true↔k=p:=by
 unfold C7
 grind
theorem WY (f:Nat→Nat) {α:Type}:∀(l:List (Nat×α)) (p:Nat),(UM f l).testBit p=true↔∃n,n∈l.map (·.1)∧f n=p
 | [],p=>by simp[UM]
 |(n,v)::l,p=>by
  simp only[UM,Nat.testBit_or,Bool.or_eq_true,Gt,WY f l p,List.map_cons,List.mem_cons]
  simp_all
theorem bP {wr:Wr (std E N)} {p:Nat}:wr.mask.testBit p=true↔(∃n,n∈wr.ts.map (·.1)∧3*n=p)∨(∃n,n∈wr.bs.map (·.1)∧3*n+1=p)∨(∃n,n∈wr.hs.map (·.1)∧3*n+2=p):=by
 simp only[Wr.mask,Nat.testBit_or,Bool.or_eq_true,WY,or_assoc]
theorem Sa:∀{ts:List (Nat×Option (TV (std E N)))} {t:TM (TV (std E N))} {n:Nat},n∉ts.map (·.1)→DR (State.applyT t ts) n=DR t n
 | [],t,n,_=>rfl
 |(k,v)::r,t,n,h=>by
  simp only[List.map_cons,List.mem_cons,not_or]at h;simp only[State.applyT];rw[Sa h.2,ER,if_neg (fun e=>h.1 e.1)]
theorem mD:∀{ts:List (Nat×Option (TV (std E N)))} {t t':TM (TV (std E N))} {n:Nat},n∈ts.map (·.1)→DR (State.applyT t ts) n=DR (State.applyT t' ts) n
 | [],t,t',n,h=>by simp at h
 |(k,v)::r,t,t',n,h=>by
  simp only[State.applyT]
  by_cases hr:n∈r.map (·.1)
  ·exact mD hr
  rw[Sa hr,Sa hr,ER,ER];have hk:n=k:=by
   simp_all
  by_cases hb:k<Fg
  ·simp_all
  rw[if_neg (fun e=>hb e.2),if_neg (fun e=>hb e.2)];have hn:Nat.blt n Fg=false:=by
   cases h:Nat.blt n Fg
   ·rfl
   exact(hb (hk▸A7.1 h)).elim
  unfold DR;rw[hn]
theorem bA {α:Type}:∀{ts:List (Nat×Option α)} {t t':List (Nat×α)} {n:Nat},n∈ts.map (·.1)→AL (BO t ts) n=AL (BO t' ts) n
 | [],t,t',n,h=>by simp at h
 |(k,v)::r,t,t',n,h=>by
  simp only[BO]
  by_cases hr:n∈r.map (·.1)
  ·exact bA hr
  rw[EX hr,EX hr,BQ,BQ]
  simp_all
theorem QZ {wr:Wr (std E N)} {p:Nat} (h:¬wr.mask.testBit p=true):Cl (s.apply wr) p=Cl s p:=by
 rw[bP]at h;have hT:p%3=0→(s.apply wr).getT (p / 3)=s.getT (p / 3):=fun hp=>Sa (fun hm=>h (.inl ⟨p / 3,hm,by omega⟩))
 have hB:p%3=1→(s.apply wr).getB (p / 3)=s.getB (p / 3):=fun hp=>EX (fun hm=>h (.inr (.inl ⟨p / 3,hm,by omega⟩)))
 have hH:p%3=2→(s.apply wr).getH (p / 3)=s.getH (p / 3):=fun hp=>EX (fun hm=>h (.inr (.inr ⟨p / 3,hm,by omega⟩)))
 rcases(by omega:p%3=0∨p%3=1∨p%3=2)with hp|hp|hp
 ·simp[Cl,hp,hT hp]
 ·simp[Cl,hp,hB hp]
 simp[Cl,hp,hH hp]
theorem Ym {wr:Wr (std E N)} {p:Nat} (h:wr.mask.testBit p=true) (s s':St0 E N):Cl (s.apply wr) p=Cl (s'.apply wr) p:=by
 rw[bP]at h
 rcases h with⟨n,hn,rfl⟩|⟨n,hn,rfl⟩|⟨n,hn,rfl⟩
 ·have h0:(3*n)%3=0:=by omega
  have h1:(3*n) / 3=n:=by omega
  have:(s.apply wr).getT n=(s'.apply wr).getT n:=mD (t:=s.tm) (t':=s'.tm) hn;simpa[Cl,h0,h1] using this
 ·have h0:(3*n+1)%3=1:=by omega
  have h1:(3*n+1) / 3=n:=by omega
  have:(s.apply wr).getB n=(s'.apply wr).getB n:=bA (t:=s.bx) (t':=s'.bx) hn;simpa[Cl,h0,h1] using this
 have h0:(3*n+2)%3=2:=by omega
 have h1:(3*n+2) / 3=n:=by omega
 have:(s.apply wr).getH n=(s'.apply wr).getH n:=bA (t:=s.hp) (t':=s'.hp) hn;simpa[Cl,h0,h1] using this
theorem fD {α:Type}:∀{r:RM (std E N) α} {m m':Nat} {x:α},RM.run s r m=.ok (x,m')→∀p,m.testBit p=true→m'.testBit p=true:=by
 intro r
 induction r with
 |ret v=>intro m m' x h p hp;simp only[RM.run]at h;simp_all
 |fail w=>intro m m' x h;trivial
 |t n f ih=>intro m m' x h p hp;exact ih _ h p (by simp_all)
 |b n f ih=>intro m m' x h p hp;exact ih _ h p (by simp_all)
 |h n f ih=>intro m m' x h p hp;exact ih _ h p (by simp_all)
theorem mo {α:Type}:∀{r:RM (std E N) α} {m m':Nat} {x:α},RM.run s r m=.ok (x,m')→(∀p,m'.testBit p=true→Cl s p=Cl s' p)→RM.run s' r m=.ok (x,m'):=by
 intro r
 induction r with
 |ret v=>intro m m' x h _;exact h
 |fail w=>intro m m' x h _;trivial
 |t n f ih =>
  intro m m' x h ha;have hb:m'.testBit (3*n)=true:=fD (r:=f (s.getT n)) h _ (by rw[Nat.testBit_or,Gt.2 rfl,Bool.or_true]);simp only[RM.run]at h⊢;rw[←wz (ha _ hb)]
  grind
 |b n f ih =>
  intro m m' x h ha;have hb:m'.testBit (3*n+1)=true:=fD (r:=f (s.getB n)) h _ (by rw[Nat.testBit_or,Gt.2 rfl,Bool.or_true]);simp only[RM.run]at h⊢;rw[←wU (ha _ hb)]
  grind
 |h n f ih =>
  intro m m' x h ha;have hb:m'.testBit (3*n+2)=true:=fD (r:=f (s.getH n)) h _ (by rw[Nat.testBit_or,Gt.2 rfl,Bool.or_true]);simp only[RM.run]at h⊢;rw[←xT (ha _ hb)]
  grind
structure Rc (E:Env) (N:Nat) where
 id:Nat
 rd:Nat
 wr:Wr (std E N)
def stD (D:Nat→Bool):Nat→List (Rc E N)→St0 E N→St0 E N
 |_,[],s=>s
 |i,t::tr,s=>stD D (i+1) tr (match D i with|true=>s.apply t.wr|false=>s)
theorem QF {D D':Nat→Bool} {p:Nat}:∀ {tr:List (Rc E N)} {i:Nat} {s s':St0 E N},Cl s p=Cl s' p→(∀ (k:Nat) (t:Rc E N),tr[k]?=some t→t.wr.mask.testBit p=true→D (i+k)=D' (i+k)) →
    Cl (stD D i tr s) p=Cl (stD D' i tr s') p
  | [],i,s,s',h,_=>h
  |t::tr,i,s,s',h,hd=>by
    simp only[stD];refine QF ?_ (fun k u hk hu=>by have:=hd (k+1) u (by trivial) hu;grind)
    by_cases hb:t.wr.mask.testBit p=true
    · have:=hd 0 t rfl hb;rw[Nat.add_zero]at this;rw[←this];cases D i
      · exact h
      exact Ym hb _ _
    have e1:Cl (match D i with|true=>s.apply t.wr|false=>s) p=Cl s p:=by
      cases D i
      · rfl
      exact QZ hb
    have e2:Cl (match D' i with|true=>s'.apply t.wr|false=>s') p=Cl s' p:=by
      cases D' i
      · rfl
      exact QZ hb
    simp_all
theorem Yw {D:Nat→Bool} {p:Nat} {t:Rc E N} (s0:St0 E N):∀ {tr:List (Rc E N)} {i k:Nat} {s:St0 E N},tr[k]?=some t→D (i+k)=true→t.wr.mask.testBit p=true →
    (∀(j:Nat) (u:Rc E N),k<j→tr[j]?=some u→u.wr.mask.testBit p=true→D (i+j)=false)→Cl (stD D i tr s) p=Cl (s0.apply t.wr) p
  | [],i,k,s,hk,_,_,_=>by simp at hk
  |u::tr,i,0,s,hk,hd,hb,hl=>by
    simp at hk;subst hk;rw[Nat.add_zero]at hd;simp only[stD,hd];have:=QF (D:=D) (D':=fun _=>false) (p:=p) (tr:=tr) (i:=i+1) (s:=s.apply u.wr) (s':=s0.apply u.wr) (Ym hb _ _) (fun k v hk hv=>by
      have:=hl (k+1) v (by omega) (by trivial) hv
      grind)
    rw[this];have none:∀(tr:List (Rc E N)) (i:Nat) (s:St0 E N),stD (fun _=>false) i tr s=s:=fun tr=>by
      induction tr with
      |nil=>intro i s;rfl
      |cons v tr ih=>intro i s;exact ih _ _
    rw[none]
  |u::tr,i,k+1,s,hk,hd,hb,hl=>by
    simp only[stD];exact Yw s0 (tr:=tr) (i:=i+1) (k:=k) (by trivial) (by grind) hb (fun j v hj hv hp=>by
      have:=hl (j+1) v (by omega) (by trivial) hp
      grind)
def OpGood (P:Program) (cfg:Cfg) (all:List Oper) (o:Oper) (s:St0 E N) (t:Rc E N):Prop :=
  (∃as,RM.run s (LC (O:=std E N) P cfg all o t.id) 0=.ok (.plain as t.wr,t.rd)∧∀b∈as,b=true) ∨
  (∃(g:Option Bool) (f:FuncId) (fns:List Nat) (ls dm:List AQ) (next:List PV→Option (Wr (std E N))) (c:List PV),RM.run s (LC (O:=std E N) P cfg all o t.id) 0=.ok (.call g f fns ls dm next,t.rd) ∧
    (match g with|none=>E f fns (ls.map Leaf.pv)|some b=>if b then E f fns (ls.map Leaf.pv)else some (dm.map Leaf.pv))=some c∧next c=some t.wr)
theorem OpGood.agree {all:List Oper} {o:Oper} {t:Rc E N} (h:OpGood P cfg all o s t) (ha:∀p,t.rd.testBit p=true→Cl s p=Cl s' p):OpGood P cfg all o s' t:=by
 rcases h with⟨as,h1,h2⟩|⟨g,f,fns,ls,dm,next,c,h1,h2,h3⟩
 ·exact .inl ⟨as,mo h1 ha,h2⟩
 exact .inr ⟨g,f,fns,ls,dm,next,c,mo h1 ha,h2,h3⟩
def TrOK (P:Program) (cfg:Cfg) (all:List Oper):List Oper→Nat→St0 E N→List (Rc E N)→Prop
 | [],_,_,[]=>True
 |o::r,id,s,t::tr=>t.id=id∧OpGood P cfg all o s t∧TrOK P cfg all r (id+BW P o) (s.apply t.wr) tr
 |_,_,_,_=>False
theorem TrOK.len {all:List Oper}:∀{r:List Oper} {id:Nat} {s:St0 E N} {tr:List (Rc E N)},TrOK P cfg all r id s tr→tr.length=r.length
 | [],_,_,[],_=>rfl
 |o::r,_,_,t::tr,h=>by simp[h.2.2.len]
 | [],_,_,_::_,h=>h.elim
 |_::_,_,_,[],h=>h.elim
theorem TrOK.good {all:List Oper}:∀{r:List Oper} {id i:Nat} {s:St0 E N} {tr:List (Rc E N)},TrOK P cfg all r id s tr→∀(k:Nat) (o:Oper) (t:Rc E N),r[k]?=some o→tr[k]?=some t→OpGood P cfg all o (stD (fun j=>decide (j<i+k)) i tr s) t
 | [],_,_,_,[],_,k,o,t,hk,_=>by simp at hk
 |o::r,id,i,s,t::tr,h,0,o',t',hk,ht=>by
  simp at hk ht;subst hk;subst ht;have none:∀(tr:List (Rc E N)) (j:Nat) (s:St0 E N),i≤j→stD (fun j=>decide (j<i+0)) j tr s=s:=fun tr=>by
   induction tr with
   |nil=>intro j s _;rfl
   |cons v tr ih =>
    intro j s hj;simp only[stD]
    grind
  rw[none _ _ _ (Nat.le_refl _)];exact h.2.1
 |o::r,id,i,s,t::tr,h,k+1,o',t',hk,ht=>by
  simp only[stD];rw[show decide (i<i+(k+1))=true by simp];have:=TrOK.good (i:=i+1) h.2.2 k o' t' (by trivial) (by trivial)
  grind
 | [],_,_,_,_::_,h,_,_,_,_,_=>h.elim
 |_::_,_,_,_,[],h,_,_,_,_,_=>h.elim
theorem TrOK.ids {all:List Oper}:∀ {r:List Oper} {id:Nat} {s:St0 E N} {tr:List (Rc E N)},TrOK P cfg all r id s tr→(∀ (k:Nat) (t:Rc E N),tr[k]?=some t→id≤t.id) ∧
    ∀(i j:Nat) (o:Oper) (t u:Rc E N),i<j→r[i]?=some o→tr[i]?=some t→tr[j]?=some u→t.id+BW P o≤u.id
  | [],_,_,[],_=>⟨fun k t h=>by simp at h,fun i j o t u _ h=>by simp at h⟩
  |o::r,id,s,t::tr,h=>by
    obtain⟨h1,h2⟩:=h.2.2.ids;refine⟨fun k u hk=>?_,fun i j o' t' u hij ho ht hu=>?_⟩
    · cases k with
      |zero=>simp at hk;subst hk;exact Nat.le_of_eq h.1.symm
      |succ k=>grind
    cases j with
    |zero=>omega
    |succ j =>
      cases i with
      |zero =>
        simp at ho ht;subst ho;subst ht;have:=h1 j u (by trivial);rw[h.1];exact this
      |succ i=>grind
  | [],_,_,_::_,h=>h.elim
  |_::_,_,_,[],h=>h.elim
theorem bR (inl:Inl E N) {all:List Oper} {r:List PV}:∀ (rest:List Oper) (id:Nat) (s:St0 E N) (ms:List (Nat×Nat)) (k:St0 E N→List (Nat×Nat)→Option (List PV)),EE (O:=std E N) P cfg inl all true rest id s ms k=some r →
    ∃(tr:List (Rc E N)) (id':Nat),TrOK P cfg all rest id s tr∧k { stD (fun _=>true) 0 tr s with st:=id' } (ms++tr.map fun t=>(t.rd,t.wr.mask))=some r∧id≤id'∧∀(i:Nat) (o:Oper) (t:Rc E N),rest[i]?=some o→tr[i]?=some t→t.id+BW P o≤id'
  | [],id,s,ms,k,h=>⟨[],id,trivial,by simpa[EE,stD] using h,Nat.le_refl _,fun i o t ho=>by simp at ho⟩
  |o::rest,id,s,ms,k,h=>by
    have shift:∀(tr:List (Rc E N)) (i j:Nat) (s:St0 E N),stD (fun _=>true) i tr s=stD (fun _=>true) j tr s:=fun tr=>by
      induction tr with
      |nil=>intro i j s;rfl
      |cons t tr ih=>intro i j s;exact ih _ _ _
    have next:∀(wr:Wr (std E N)) (rd:Nat),OpGood P cfg all o s ⟨id,rd,wr⟩→EE (O:=std E N) P cfg inl all true rest (id+BW P o) (s.apply wr) (ms++[(rd,wr.mask)]) k=some r→∃(tr:List (Rc E N)) (id':Nat),TrOK P cfg all (o::rest) id s tr∧k { stD (fun _=>true) 0 tr s with st:=id' } (ms++tr.map fun t=>(t.rd,t.wr.mask))=some r∧id≤id'∧∀(i:Nat) (o':Oper) (t:Rc E N),(o::rest)[i]?=some o'→tr[i]?=some t→t.id+BW P o'≤id':=fun wr rd hg hr=>by
      obtain⟨tr,id',h1,h2,h3,h4⟩:=bR inl rest _ _ _ _ hr;refine⟨⟨id,rd,wr⟩::tr,id',⟨rfl,hg,h1⟩,?_,by omega,fun i o' t ho ht=>?_⟩
      · simp only[stD]
        grind
      grind
    unfold EE at h
    split at h
    · cases h
    · rename_i as wr rd hrun;obtain⟨has,h2⟩:=UK h;exact next wr rd (.inl ⟨as,hrun,has⟩) h2
    · rename_i g f fns args dm nx rd hrun;obtain⟨c,hc,h2⟩:=Option.bind_eq_some_iff.1 h
      split at h2
      · cases h2
      rename_i wr hn;refine next wr rd (.inr ⟨g,f,fns,args,dm,nx,c,hrun,?_,hn⟩) h2
      grind
    · cases h
    cases h
end
section
variable {E:Env} {N:Nat} {P:Program} {cfg:Cfg} {n0 n0':Nz} {nt:Nat} {β β':Nat→Option Nat} {σ σ':Nat→Option (Nat×Nat)} {s s' s2:St0 E N} {a:Act} {w w':World}
theorem dl:∀ (ops:List Oper) (acc:List Nat) (k:Nat) (o:Oper),ops[k]?=some o→∀ j,((Bn ops acc).getD (acc.length+k) 0).testBit j=true →
    ∃e∈o.after.toList,Region.binds .any e=true∧(j=e.on∨(e.on<acc.length+k∧((Bn ops acc).getD e.on 0).testBit j=true))
  | [],acc,k,o,h=>by simp at h
  |x::ops,acc,k,o,h=>by
    have pre:∀(ops:List Oper) (acc:List Nat) (i:Nat),i<acc.length→(Bn ops acc).getD i 0=acc.getD i 0:=fun ops=>by
      induction ops with
      |nil=>intro acc i _;rfl
      |cons y ops ih =>
        intro acc i hi;simp only[Bn];rw[ih _ _ (by simp;omega)];simp only[zzk];rw[List.getElem?_append_left hi]
    cases k with
    |succ k =>
      intro j hj;obtain⟨m,hm⟩:∃m,Bn (x::ops) acc=Bn ops (acc++[m]):=⟨_,rfl⟩;rw[hm]at hj⊢;have hl:(acc++[m]).length+k=acc.length+(k+1):=by simp;omega
      have:=dl ops (acc++[m]) k o (by simpa using h) j (by rw[hl];exact hj);rw[hl]at this;exact this
    |zero =>
      simp at h;subst h;intro j hj;simp only[Bn]at hj⊢;rw[pre _ _ _ (by simp)]at hj;simp only[zzk,Nat.add_zero]at hj;rw[List.getElem?_append_right (Nat.le_refl _)]at hj;simp only[Nat.sub_self,List.getElem?_cons_zero,Option.getD_some]at hj;have key:∀(es:List Edge) (m:Nat),(es.foldl (fun s (e:Edge)=>match e.ground with
    | .textOnly _ | .gcOnly _=>s
    | _ => s ||| C7 e.on ||| acc.getD e.on 0) m).testBit j = true → m.testBit j = true ∨ ∃ e ∈ es, Region.binds .any e = true ∧ (j = e.on ∨ (acc.getD e.on 0).testBit j = true) := fun es => by
        induction es with
        |nil=>intro m h;exact .inl h
        |cons e es ih =>
          intro m h;simp only[List.foldl_cons]at h
          rcases ih _ h with h1|⟨e',h1,h2⟩
          · have hb:(m.testBit j=true)∨(Region.binds .any e=true∧(j=e.on∨(acc.getD e.on 0).testBit j=true)):=by
              unfold Region.binds
              split at h1
              · exact .inl h1
              · exact .inl h1
              rename_i hg1 hg2;rw [Nat.testBit_or,Nat.testBit_or,Bool.or_eq_true,Bool.or_eq_true,Gt] at h1;have hbnd:(match e.ground with
                  | .textOnly _=>Region.Mode.any==.text
                  | .gcOnly _=>Region.Mode.any==.gc
                  |_=>true)=true:=by
                split
                · rename_i hx;exact(hg1 _ hx).elim
                · rename_i hx;exact(hg2 _ hx).elim
                rfl
              rcases h1 with(h1|h1)|h1
              · exact .inl h1
              · exact .inr ⟨hbnd,.inl h1.symm⟩
              exact .inr ⟨hbnd,.inr h1⟩
            rcases hb with h|h
            · exact .inl h
            exact .inr ⟨e,zzl,h⟩
          exact .inr ⟨e',zzm _ h1,h2⟩
      rcases key _ 0 hj with h|⟨e,h1,h2,h3⟩
      · simp at h
      refine⟨e,h1,h2,h3.imp (fun h=>h) (fun h=>?_)⟩
      by_cases he:e.on<acc.length
      · exact⟨by omega,by rw[pre _ _ _ (by simp;omega)];simp only[zzk]at h⊢;rw[List.getElem?_append_left he];exact h⟩
      simp only[zzk]at h;rw[List.getElem?_eq_none (by omega)]at h;simp at h
theorem jS:∀{ops:List Oper} {i:Nat},bI i ops=true→∀(k:Nat) (o:Oper),ops[k]?=some o→∀e∈o.after.toList,Region.binds .any e=true→e.on<i+k
 | [],i,_,k,o,h,_,_,_=>by simp at h
 |x::ops,i,hb,k,o,h,e,he,hbd=>by
  simp only[bI,zzj]at hb;cases k with
  |succ k =>
   have:=jS hb.2 k o (by simpa using h) e he hbd;omega
  |zero =>
   simp at h;subst h;have:=List.all_eq_true.1 hb.1 e he;unfold Region.binds at hbd
   split at hbd
   ·simp at hbd
   ·simp at hbd
   rename_i h1 h2
   split at this
   ·rename_i hx;exact(h1 _ hx).elim
   ·rename_i hx;exact(h2 _ hx).elim
   exact A7.1 this
theorem dP {j bj rj wj:Nat}:∀{i:Nat} {l:List (Nat×Nat)},Nj.inner j bj rj wj i l=true→∀(k r w:Nat),l[k]?=some (r,w)→i+k<j→bj.testBit (i+k)=true∨(w &&& (rj ||| wj)=0∧wj &&& r=0)
 |i,[],_,k,r,w,h,_=>by simp at h
 |i,(r',w')::l,hi,k,r,w,h,hlt=>by
  simp only[Nj.inner]at hi
  split at hi
  ·rename_i hle;have:=Nat.le_of_ble_eq_true hle;omega
  split at hi
  ·rename_i hor;cases k with
   |zero =>
    simp at h;obtain⟨rfl,rfl⟩:=h;simp only[Bool.or_eq_true,zzj,AG]at hor;simpa using hor
   |succ k =>
    have:=dP hi k r w (by simpa using h) (by omega);rw[show i+(k+1)=i+1+k by omega];exact this
  cases hi
theorem dW {ms:List (Nat×Nat)}:∀{j:Nat} {bs:List Nat} {l:List (Nat×Nat)},Nj.outer ms j bs l=true→∀(k b r w:Nat),bs[k]?=some b→l[k]?=some (r,w)→Nj.inner (j+k) b r w 0 ms=true
 |j,[],l,_,k,b,r,w,h,_=>by simp at h
 |j,b'::bs,[],_,k,b,r,w,_,h=>by simp at h
 |j,b'::bs,(r',w')::l,ho,k,b,r,w,h1,h2=>by
  simp only[Nj.outer]at ho
  split at ho
  ·rename_i hi;cases k with
   |zero =>
    simp at h1 h2;obtain⟨rfl,rfl⟩:=h2;subst h1;exact hi
   |succ k =>
    have:=dW ho k b r w (by simpa using h1) (by simpa using h2);rw[show j+(k+1)=j+1+k by omega];exact this
  cases ho
theorem eA {x y p:Nat} (h:x &&& y=0) (hx:x.testBit p=true) (hy:y.testBit p=true):False:=by
 have:=congrArg (fun n=>n.testBit p) h;simp[Nat.testBit_and,hx,hy]at this
def VC (D:Nat→Bool):Nat→List Oper→List Nat
 |_,[]=>[]
 |i,o::r=>(match D i with|true=>o.dst.toList|false=>[])++VC D (i+1) r
theorem LP {D:Nat→Bool} {d:Nat}:∀{l:List Oper} {i:Nat},d∈VC D i l↔∃k o,l[k]?=some o∧D (i+k)=true∧o.dst=some d
 | [],i=>by simp[VC]
 |x::l,i=>by
  simp only[VC,List.mem_append,LP (l:=l)];constructor
  ·rintro(h|⟨k,o,h1,h2,h3⟩)
   ·cases hD:D i
    ·rw[hD]at h;simp at h
    rw[hD]at h;exact⟨0,x,rfl,hD,by simpa using h⟩
   exact⟨k+1,o,by simpa using h1,by rw[show i+(k+1)=i+1+k by omega];exact h2,h3⟩
  rintro⟨k,o,h1,h2,h3⟩
  cases k with
  |zero =>
   simp at h1;subst h1;rw[Nat.add_zero]at h2;rw[h2];exact .inl (by simpa using h3)
  |succ k=>exact .inr ⟨k,o,by simpa using h1,by rw[show i+1+k=i+(k+1) by omega];exact h2,h3⟩
theorem dK:∀{l:List Oper},(Am l).Nodup→∀{i j:Nat} {o o':Oper} {d:Nat},l[i]?=some o→l[j]?=some o'→o.dst=some d→o'.dst=some d→i=j
 | [],_,i,j,o,o',d,h,_,_,_=>by simp at h
 |x::l,hn,i,j,o,o',d,hi,hj,ho,ho'=>by
  have hn2:(Am l).Nodup:=by
   simp only[Am]at hn;cases hx:x.dst with
   |none=>rw[hx]at hn;exact hn
   |some y=>rw[hx]at hn;exact(List.nodup_cons.1 hn).2
  have hx:∀{y},x.dst=some y→y∉Am l:=fun {y} hx=>by
   simp only[Am]at hn;rw[hx]at hn;exact(List.nodup_cons.1 hn).1
  cases i with
  |zero =>
   cases j with
   |zero=>rfl
   |succ j =>
    simp at hi;subst hi;exact(hx ho (Hc (l:=l) (k:=j) (by simpa using hj) ho')).elim
  |succ i =>
   cases j with
   |zero =>
    simp at hj;subst hj;exact(hx ho' (Hc (l:=l) (k:=i) (by simpa using hi) ho)).elim
   |succ j=>exact congrArg (·+1) (dK hn2 (by simpa using hi) (by simpa using hj) ho ho')
structure Inv (P:Program) (n0:Nz) (nt L:Nat) (ops:List Oper) (tr:List (Rc E N)) (β:Nat→Option Nat) (σ:Nat→Option (Nat×Nat)) (s:St0 E N) (a:Act) (w:World) (D:Nat→Bool) (a':Act) (w':World):Prop where
 post:∃β' σ',Post P n0 nt L (fun n=>n∈Am ops) β σ s a w β' σ' (stD D 0 tr s) a' w'
 gi:GI (stD D 0 tr s) (VC D 0 ops)
 fresh:∀n,L≤n→(∀(i:Nat) (o:Oper) (t:Rc E N),D i=true→ops[i]?=some o→tr[i]?=some t→¬(t.id≤n∧n<t.id+BW P o))→Fresh a' (stD D 0 tr s) n
theorem mT {p q:Nat→Bool} (h:∀x,q x=true→p x=true):∀l:List Nat,(l.filter q).length≤(l.filter p).length
 | []=>Nat.le_refl _
 |x::l=>by
  have ih:=mT h l;simp only[List.filter_cons];cases hq:q x
  ·cases p x
   ·simpa using ih
   simp;omega
  rw[h x hq];simp;exact ih
theorem mr {p q:Nat→Bool} {i:Nat} (hp:p i=true) (hq:q i=false) (h:∀x,q x=true→p x=true):∀l:List Nat,i∈l→(l.filter q).length<(l.filter p).length
 | [],hi=>by simp at hi
 |x::l,hi=>by
  simp only[List.filter_cons]
  rcases List.mem_cons.1 hi with rfl|hi
  ·rw[hp,hq];have:=mT h l;simp;omega
  have ih:=mr hp hq h l hi;cases hqx:q x
  ·cases p x
   ·simpa using ih
   simp;omega
  rw[h x hqx];simp;exact ih
theorem vX {ops:Array Oper} {Q:Exit→Act→World→Prop} {fuel:Nat} {listed:Array Bool} {a:Act} {w:World} (hall:∀i,i<ops.size→listed.getD i true=true) (h:Q .normal a w):wpAny P .any ops Q fuel listed a w:=by
 have hr:Region.ready .any ops listed=[]:=by
  cases hr:Region.ready .any ops listed with
  |nil=>rfl
  |cons x l =>
   have hx:x∈Region.ready .any ops listed:=by rw[hr];exact zzl
   rw[mem_ready]at hx;obtain⟨h1,o,h2,_⟩:=hx;rw[hall x (Array.getElem?_eq_some_iff.1 h2).1]at h1;cases h1
 cases fuel with
 |zero=>exact⟨hr,h⟩
 |succ n=>exact⟨fun _=>h,fun i hi=>by rw[hr]at hi;cases hi⟩
theorem lm (hΓ:GamOK P E N cfg) {ops:Array Oper} (hnd:(Am ops.toList).Nodup) (hgd:GH ops.toList 0 (Bn ops.toList []) ops.toList=true)
    (hback:bI 0 ops.toList=true) (hdn:∀d∈Am ops.toList,d<nt) {Q:Exit→Act→World→Prop} {L:Nat} {tr:List (Rc E N)} {init tail:List Oper} (hsplit:ops.toList=init++tail)
    (htail:tail=[]∨(∃o,tail=[o])∧∀j,j<init.length→((Bn ops.toList []).getD init.length 0).testBit j=true) (htr:TrOK P cfg ops.toList init L s tr)
    (hap:Nj (Bn ops.toList []) (tr.map fun t=>(t.rd,t.wr.mask))=true)
    (hQ:∀D a' w',(∀i,i<init.length→D i=true)→(∀i,init.length≤i→D i=false)→Inv P n0 nt L ops.toList tr β σ s a w D a' w'→wpOps P ops Q (List.range' init.length tail.length) a' w') :
    ∀(fuel:Nat) (listed:Array Bool) (a':Act) (w':World),listed.size=ops.size→((List.range ops.size).filter fun i => !listed.getD i false).length≤fuel →
      (∀i j,listed.getD i false=true→((Bn ops.toList []).getD i 0).testBit j=true→listed.getD j false=true)→(∀i,init.length≤i→listed.getD i false=false) →
      Inv P n0 nt L ops.toList tr β σ s a w (fun i=>listed.getD i false) a' w'→wpAny P .any ops Q fuel listed a' w':=by
  have hlen:=htr.len;have hopl:ops.toList.length=init.length+tail.length:=by rw[hsplit,List.length_append]
  have hopz:ops.size=init.length+tail.length:=by rw[←hopl];simp
  have hgI:∀{i:Nat} {o:Oper},i<init.length→ops.toList[i]?=some o→init[i]?=some o:=fun {i o} hi ho=>by
    rw[hsplit,List.getElem?_append_left hi]at ho;exact ho
  have hgO:∀{i:Nat} {o:Oper},init[i]?=some o→ops.toList[i]?=some o:=fun {i o} ho=>by
    rw[hsplit,List.getElem?_append_left (List.getElem?_eq_some_iff.1 ho).1];exact ho
  have hbs:(Bn ops.toList []).length=ops.toList.length:=by
    have:∀(l:List Oper) (acc:List Nat),(Bn l acc).length=acc.length+l.length:=fun l=>by
      induction l with
      |nil=>intro acc;simp[Bn]
      |cons x l ih=>intro acc;simp only[Bn];rw[ih];simp;omega
    rw[this];simp
  have Sd:∀(i j:Nat) (t u:Rc E N),i<j→tr[i]?=some t→tr[j]?=some u→((Bn ops.toList []).getD j 0).testBit i=true∨(t.wr.mask &&& (u.rd ||| u.wr.mask)=0∧u.wr.mask &&& t.rd=0):=fun i j t u hij ht hu=>by
    have hj:j<ops.toList.length:=by have:=(List.getElem?_eq_some_iff.1 hu).1;omega
    have h1:=dW (j:=0) hap j ((Bn ops.toList []).getD j 0) u.rd u.wr.mask (by
      rw[zzk];rw[zzn (by rw[hbs];exact hj)];rfl) (by rw[List.getElem?_map,hu];rfl)
    rw[Nat.zero_add]at h1;have:=dP h1 i t.rd t.wr.mask (by rw[List.getElem?_map,ht];rfl) (by omega)
    rwa[Nat.zero_add]at this
  have allDone:∀(listed:Array Bool),Region.ready .any ops listed=[]→listed.size=ops.size→∀i,i<ops.size→listed.getD i false=true:=fun listed hr hsz i=>by
    induction i using Nat.strongRecOn with
    |_ i ih =>
      intro hi;cases hl:listed.getD i false
      · have:i∈Region.ready .any ops listed:=by
          rw[mem_ready];refine⟨?_,ops[i],by simp[hi],fun e he hb=>?_⟩
          · rw[Array.getD_eq_getD_getElem?]at hl⊢;rw[Array.getElem?_eq_getElem (by rw[hsz];exact hi)]at hl⊢;simpa using hl
          have:=jS hback i ops[i] (by simp[hi]) e (by simpa using he) hb;exact ih e.on (by omega) (by omega)
        rw[hr]at this;simp at this
      rfl
  intro fuel
  induction fuel with
  |zero =>
    intro listed a' w' hsz hf hcl hun inv;have hall:∀i,i<ops.size→listed.getD i false=true:=fun i hi=>by
      have h0:((List.range ops.size).filter fun i => !listed.getD i false)=[]:=List.length_eq_zero_iff.1 (by omega);have:=List.filter_eq_nil_iff.1 h0 i (List.mem_range.2 hi);simpa using this
    have ht0:tail=[]:=by
      rcases htail with h|⟨⟨o,h⟩,_⟩
      · exact h
      have h1:=hall init.length (by rw[hopz,h];simp);rw[hun init.length (Nat.le_refl _)]at h1;cases h1
    have hq:=hQ _ a' w' (fun i hi=>hall i (by omega)) hun inv;rw[ht0]at hq;refine⟨?_,hq⟩;cases hr:Region.ready .any ops listed with
    |nil=>rfl
    |cons x l =>
      have hx:x∈Region.ready .any ops listed:=by rw[hr];exact zzl
      rw[mem_ready]at hx;obtain⟨h1,o,h2,_⟩:=hx;have hi:=(Array.getElem?_eq_some_iff.1 h2).1;have:=hall x hi;rw[Array.getD_eq_getD_getElem?]at h1 this;rw[Array.getElem?_eq_getElem (by rw[hsz];exact hi)]at h1 this;simp at h1 this;rw[this]at h1;cases h1
  |succ fuel ih =>
    intro listed a' w' hsz hf hcl hun inv;refine⟨fun hr=>?_,fun i hi=>?_⟩
    · have hall:=allDone listed hr hsz;have ht0:tail=[]:=by
        rcases htail with h|⟨⟨o,h⟩,_⟩
        · exact h
        have h1:=hall init.length (by rw[hopz,h];simp);rw[hun init.length (Nat.le_refl _)]at h1;cases h1
      have hq:=hQ _ a' w' (fun i hi=>hall i (by omega)) hun inv;rw[ht0]at hq;exact hq
    rw[mem_ready]at hi;obtain⟨h1,o,ho,haft⟩:=hi;have hisz:=(Array.getElem?_eq_some_iff.1 ho).1;have hoL:ops.toList[i]?=some o:=by rw[Array.getElem?_toList];exact ho
    have hDi:listed.getD i false=false:=by
      rw[Array.getD_eq_getD_getElem?]at h1⊢;rw[Array.getElem?_eq_getElem (by rw[hsz];exact hisz)]at h1⊢;simpa using h1
    have hbef:∀j,((Bn ops.toList []).getD i 0).testBit j=true→listed.getD j false=true:=fun j hj=>by
      obtain⟨e,he,hb,h3⟩:=dl ops.toList [] i o hoL j (by simpa using hj);have hd:=haft e (by simpa using he) hb
      rcases h3 with rfl|⟨_,h3⟩
      · exact hd
      exact hcl e.on j hd h3
    rcases Nat.lt_or_ge i init.length with hil|hil
    case inr =>
      rcases htail with h|⟨⟨ol,h⟩,hbl⟩
      · rw[h]at hopz;simp at hopz;omega
      have hin:i=init.length:=by rw[h]at hopz;simp at hopz;omega
      subst hin;have hall:∀j,j<init.length→listed.getD j false=true:=fun j hj=>hbef j (hbl j hj)
      have hq:=hQ _ a' w' hall hun inv;rw[h]at hq;have hq:wpOp P ops Q init.length (wpOps P ops Q []) a' w':=by rw[←wpOps_cons];exact hq
      refine wpOp_mono (fun a2 w2 h2=>vX (fun j hj=>?_) h2) hq;rw[h]at hopz;simp only[List.length_cons,List.length_nil,Nat.zero_add]at hopz
      rcases Nat.lt_or_ge j init.length with hj2|hj2
      · have:=hall j hj2;rw[Array.getD_eq_getD_getElem?]at this⊢;rw[Array.getElem?_setIfInBounds_ne (by omega)];rw[Array.getElem?_eq_getElem (by omega)]at this⊢;exact this
      have:j=init.length:=by omega
      subst this;rw[Array.getD_eq_getD_getElem?,Array.getElem?_setIfInBounds_self_of_lt (by omega)];rfl
    have htl:i<tr.length:=by rw[hlen];exact hil
    obtain⟨t,ht⟩:∃t,tr[i]?=some t:=⟨tr[i],by simp[htl]⟩;have hoI:=hgI hil hoL;have hgood:=htr.good (i:=0) i o t hoI ht;rw[Nat.zero_add]at hgood;have hgood2:OpGood P cfg ops.toList o (stD (fun i=>listed.getD i false) 0 tr s) t:=hgood.agree (fun p hp=>QF rfl (fun k u hk hu=>by
      rw[Nat.zero_add]
      rcases Nat.lt_trichotomy k i with hlt|rfl|hgt
      · rcases Sd k i u t hlt hk ht with h|⟨h,_⟩
        · rw[hbef k h];simpa using hlt
        exact(eA h hu (by rw[Nat.testBit_or,hp];rfl)).elim
      · rw[hDi];simp
      rcases Sd i k t u hgt ht hk with h|⟨_,h⟩
      · cases hD:listed.getD k false
        · simp;omega
        have:=hcl k i hD h;rw[hDi]at this;cases this
      exact(eA h hu hp).elim))
    have hset:∀j,(listed.setIfInBounds i true).getD j false=(listed.getD j false||decide (j=i)):=fun j=>by
      by_cases hji:j=i
      · subst hji;rw[Array.getD_eq_getD_getElem?,Array.getElem?_setIfInBounds];simp[hsz,hisz]
      rw[getD_set_ne _ (fun e=>hji e.symm)];simp[hji]
    have hsame:Same ((stD (fun i=>listed.getD i false) 0 tr s).apply t.wr) (stD (fun j=>(listed.setIfInBounds i true).getD j false) 0 tr s):=fun p=>by
      by_cases hp:t.wr.mask.testBit p=true
      · rw [Yw (stD (fun i=>listed.getD i false) 0 tr s) (D:=fun j=>(listed.setIfInBounds i true).getD j false) (i:=0) (s:=s) ht (by rw [Nat.zero_add,hset];simp) hp (fun j u hj hu hup=>by
          rw[Nat.zero_add,hset]
          rcases Sd i j t u hj ht hu with h|⟨h,_⟩
          · cases hD:listed.getD j false
            · simp;omega
            have:=hcl j i hD h;rw[hDi]at this;cases this
          exact(eA h hp (by rw[Nat.testBit_or,hup,Bool.or_true])).elim)]
      rw[QZ hp];refine QF rfl (fun k u hk hu=>?_);rw[Nat.zero_add,hset];have:k≠i:=fun e=>by subst e;rw[ht]at hk;cases hk;exact hp hu
      simp[this]
    obtain⟨β1,σ1,hpost⟩:=inv.post;have hdst:∀d,o.dst=some d→d∉VC (fun i=>listed.getD i false) 0 ops.toList∧d<nt:=fun d hd=>by
      refine⟨fun hm=>?_,hdn d (Hc hoL hd)⟩;obtain⟨k,o',h2,h3,h4⟩:=LP.1 hm;have:=dK hnd hoL h2 hd h4;subst this;rw[Nat.zero_add,hDi]at h3;cases h3
    have hgdone:∀j want d,o.guard=some (j,want)→(ops[j]?).bind (·.dst)=some d→d∈VC (fun i=>listed.getD i false) 0 ops.toList:=fun j want d h2 h3=>by
      have hb:((Bn ops.toList []).getD i 0).testBit j=true:=by
        have:∀(l:List Oper) (bs:List Nat) (q k:Nat),GH ops.toList q bs l=true→l[k]?=some o→(bs.getD k 0).testBit j=true:=fun l=>by
          induction l with
          |nil=>intro bs q k _ h;simp at h
          |cons x l ih =>
            intro bs q k hg hk;cases bs with
            |nil=>simp[GH]at hg
            |cons b bs =>
              simp only[GH]at hg;cases k with
              |zero =>
                simp at hk;subst hk;rw[h2]at hg;simp only[zzj]at hg;exact hg.1.1.2
              |succ k =>
                have hg2:GH ops.toList (q+1) bs l=true:=by
                  split at hg
                  · exact hg
                  simp only[zzj]at hg;exact hg.2
                exact ih bs (q+1) k hg2 (by simpa using hk)
        exact this _ _ 0 i hgd hoL
      obtain⟨x,hx,hxd⟩:=Option.bind_eq_some_iff.1 h3;exact LP.2 ⟨j,x,by rw[Array.getElem?_toList];exact hx,by rw[Nat.zero_add];exact hbef j hb,hxd⟩
    obtain⟨ids1,ids2⟩:=htr.ids;have hid:∀n,t.id≤n→n<t.id+BW P o→Fresh a' (stD (fun i=>listed.getD i false) 0 tr s) n:=fun n hn1 hn2=>inv.fresh n (Nat.le_trans (ids1 i t ht) hn1) (fun k o' u hk ho' hu hc=>by
      rcases Nat.lt_trichotomy k i with hlt|rfl|hgt
      · have:=ids2 k i o' u t hlt (hgI (by omega) ho') hu ht;omega
      · rw[hDi]at hk;cases hk
      have:=ids2 i k o t u hgt hoI ht hu;omega)
    have next:∀ a2 w2,After P n0 nt (fun n=>t.id≤n∧n<t.id+BW P o) β1 σ1 (stD (fun i=>listed.getD i false) 0 tr s) a' w' o.dst t.wr a2 w2→GI ((stD (fun i=>listed.getD i false) 0 tr s).apply t.wr) (o.dst.toList++VC (fun i=>listed.getD i false) 0 ops.toList) →
        wpAny P .any ops Q fuel (listed.setIfInBounds i true) a2 w2:=fun a2 w2 haf hgi=>by
      refine ih _ a2 w2 (by simp[hsz]) ?_ (fun x y hx hy=>?_) (fun x hx=>?_) ⟨?_,?_,fun n hn hno=>?_⟩
      · have hlt:((List.range ops.size).filter fun j => !(listed.setIfInBounds i true).getD j false).length<((List.range ops.size).filter fun j => !listed.getD j false).length:=by
          refine mr (i:=i) (by simp only[hDi];rfl) (by rw[hset];simp) (fun x hx=>?_) _ (List.mem_range.2 hisz);rw[hset]at hx;cases hlx:listed.getD x false
          · rfl
          rw[hlx]at hx;simp at hx
        omega
      · rw[hset]at hx⊢
        by_cases hxi:x=i
        · subst hxi;rw[hbef y hy];rfl
        have hx':listed.getD x false=true:=by simpa[hxi] using hx
        rw[hcl x y hx' hy];rfl
      · rw[hset,hun x hx];simp;omega
      · obtain ⟨β2,σ2,r1,r2,r3,r4,r5,r6,r7⟩:=haf;have p2:Post P n0 nt L (fun n=>n∈Am ops.toList) β1 σ1 (stD (fun i=>listed.getD i false) 0 tr s) a' w' β2 σ2 ((stD (fun i=>listed.getD i false) 0 tr s).apply t.wr) a2 w2 :=
          ⟨r1,r2.weaken (fun n hn=>Nat.le_trans (ids1 i t ht) hn.1),r4,r5,r6,fun n hn=>r7 n (fun e=>hn (Hc hoL e))⟩
        have p3:=(hpost.trans p2 (Nat.le_refl _)).same hsame;exact⟨β2,σ2,⟨p3.sim,p3.ext,p3.cleanB,p3.cleanH,p3.defers,fun n hn=>p3.tmps n (fun h=>hn (h.elim (fun h=>h) (fun h=>h)))⟩⟩
      · refine(hgi.same hsame).mono (fun d hd=>?_)
        rcases List.mem_append.1 hd with h|h
        · exact LP.2 ⟨i,o,hoL,by rw[Nat.zero_add,hset];simp,by simpa using h⟩
        obtain⟨k,o',q1,q2,q3⟩:=LP.1 h;exact LP.2 ⟨k,o',q1,by rw[Nat.zero_add]at q2⊢;rw[hset];simp[q2],q3⟩
      obtain⟨β2,σ2,r1,r2,r3,r4⟩:=haf;refine(r3 n (inv.fresh n hn (fun k o' u hk=>hno k o' u (by rw[hset,hk];rfl))) (fun hc=>?_)).same hsame;exact hno i o t (by rw[hset];simp) hoL ht hc
    rcases hgood2 with⟨as,hrun,has⟩|⟨g,f,fns,ls,dm,nx,c,hrun,hc,hn⟩
    · exact ah hΓ.shf hpost.sim inv.gi hgdone hdst hid ho hrun has next
    exact dR hΓ hpost.sim inv.gi hgdone hdst hid ho hrun (c:=c) (by
      cases g with
      |none=>exact hc
      |some b=>exact hc) hn next
end
section
variable {E:Env} {N:Nat} {P:Program} {cfg:Cfg} {n0 n0':Nz} {nt:Nat} {β β':Nat→Option Nat} {σ σ':Nat→Option (Nat×Nat)} {s s' s2:St0 E N} {a:Act} {w w':World}
theorem Sim.grow (hs:Sim P n0 nt β σ s a w) (g:Grow w w'):Sim P n0 nt β σ s a w':=by
 have x:=g.ext P n0 (fun _=>False) β σ s;refine⟨Nat.le_trans hs.n0le g.size,hs.size,fun n tv hn=>?_,hs.M.grow g,hs.kept.ext x⟩
 rcases hs.T n tv hn with⟨h1,h2⟩|h1
 ·exact .inl ⟨h1,x.relAV (fun _ _ h=>h) h2⟩
 exact .inr h1
theorem rz {D:Nat→Bool} (h:∀i,D i=false):∀(tr:List (Rc E N)) (i:Nat) (s:St0 E N),stD D i tr s=s
 | [],i,s=>rfl
 |t::tr,i,s=>by
  simp only[stD,h i];exact rz h tr _ _
theorem qi {ops:List Oper} (h:bB ops=true):(∃o,ops.drop (ops.length-1)=[o])∧∀j,j<ops.length-1→((Bn ops []).getD (ops.length-1) 0).testBit j=true:=by
 unfold bB at h
 split at h
 ·rename_i o ho;simp only[zzj]at h;refine⟨⟨o,ho⟩,fun j hj=>?_⟩;have h1:=AG.1 h.2;have h2:(C7 (ops.length-1)-1).testBit j=true:=by
   unfold C7
   simp_all
  grind
 cases h
theorem tC (hmix:P.follows .mixedOrders=true) (inl:Inl E N) (hInl:gb P inl) (hΓ:GamOK P E N cfg) {ops:Array Oper} {rid:Nat} (hdn:Mc nt ops.toList=true) {Q:Exit→Act→World→Prop} {r:List PV}
    {k:St0 E N→Option (List PV)} (h:Kv (O:=std E N) P cfg inl ops.toList true s k=some r) (hs:Sim P n0 nt β σ s a w) (wf:WF s)
    (hQ:∀(s':St0 E N) (β':Nat→Option Nat) (σ':Nat→Option (Nat×Nat)) (a':Act) (w':World),k s'=some r→Post P n0 nt s.st (fun n=>n∈Am ops.toList) β σ s a w β' σ' s' a' w'→WF s'→s.st≤s'.st→Q .normal a' w') :
    (Code.region rid ops true).wp P Q a w:=by
  unfold Kv at h
  split at h
  · cases h
  rename_i hok;simp only[zzj]at hok;have g:Grow w { w with drawn:=w.drawn+1 }:=⟨rfl,rfl,rfl,Nat.le_refl _,fun _ _=>rfl⟩;have hs0:=hs.grow g;have hD0:∀i,(Array.replicate ops.size false).getD i false=false:=fun i=>by
    rw[Array.getD_eq_getD_getElem?]
    grind
  have core:∀ {init tail:List Oper} {tr:List (Rc E N)} {id':Nat},ops.toList=init++tail→TrOK P cfg ops.toList init s.st s tr→s.st≤id'→(∀ (i:Nat) (o:Oper) (t:Rc E N),init[i]?=some o→tr[i]?=some t→t.id+BW P o≤id') →
      ∀(D:Nat→Bool) (a':Act) (w':World),(∀i,i<init.length→D i=true)→Inv P n0 nt s.st ops.toList tr β σ s a { w with drawn:=w.drawn+1 } D a' w' →
        (∃β' σ',Post P n0 nt s.st (fun n=>n∈Am ops.toList) β σ s a w β' σ' (stD (fun _=>true) 0 tr s) a' w')∧∀n,id'≤n→Fresh a' (stD (fun _=>true) 0 tr s) n:=fun {init tail tr id'} hsp htr hid hids D a' w' hall inv=>by
    obtain⟨β',σ',hp⟩:=inv.post;have hsame:Same (stD D 0 tr s) (stD (fun _=>true) 0 tr s):=fun p=>QF rfl (fun k t hk _=>by
      rw[Nat.zero_add];refine hall k ?_;have:=(List.getElem?_eq_some_iff.1 hk).1;rw[htr.len]at this;exact this)
    have hp1:=hp.same hsame;refine⟨⟨β',σ',hp1.sim,((g.ext P n0 (fun _=>False) β σ s).trans hp1.ext).weaken (fun n h=>h.elim (fun h=>h.elim) (fun h=>h)),hp1.cleanB,hp1.cleanH,hp1.defers,hp1.tmps⟩,fun n hn=>?_⟩;exact(inv.fresh n (Nat.le_trans hid hn) (fun i o t _ ho ht hc=>by
      have hi:i<init.length:=by rw[←htr.len];grind
      grind)).same hsame
  have giD:∀{init tail:List Oper} {tr:List (Rc E N)},ops.toList=init++tail→TrOK P cfg ops.toList init s.st s tr→∀(D:Nat→Bool) (a':Act) (w':World),(∀i,i<init.length→D i=true)→(∀i,init.length≤i→D i=false)→Inv P n0 nt s.st ops.toList tr β σ s a { w with drawn:=w.drawn+1 } D a' w'→GI (stD (fun _=>true) 0 tr s) (Am init):=fun {init tail tr} hsp htr D a' w' hall hun inv=>by
    have hsame:Same (stD D 0 tr s) (stD (fun _=>true) 0 tr s):=fun p=>QF rfl (fun k t hk _=>by
      rw[Nat.zero_add];refine hall k ?_;have:=(List.getElem?_eq_some_iff.1 hk).1;rw[htr.len]at this;exact this)
    refine(inv.gi.same hsame).mono (fun d hd=>?_);obtain⟨i,o,h1,h2,h3⟩:=LP.1 hd;rw[Nat.zero_add]at h2
    rcases Nat.lt_or_ge i init.length with hi|hi
    · rw[hsp,List.getElem?_append_left hi]at h1;exact Hc h1 h3
    simp_all
  have start:∀(tr:List (Rc E N)),Inv P n0 nt s.st ops.toList tr β σ s a { w with drawn:=w.drawn+1 } (fun i=>(Array.replicate ops.size false).getD i false) a { w with drawn:=w.drawn+1 }:=fun tr=>by
    have e:=rz (fun i=>hD0 i) tr 0 s;refine⟨⟨β,σ,?_⟩,?_,fun n hn _=>?_⟩
    · rw[e];exact⟨hs0,Ext.refl _ _ _ _ _ _ _,fun n e h _=>h,fun n e h _=>h,rfl,fun _ _=>rfl⟩
    · rw[e];exact wf.gi.mono (fun x hx=>by simp at hx)
    rw[e];exact wf.free a n hn
  have small:((List.range ops.size).filter fun i => !(Array.replicate ops.size false).getD i false).length≤ops.size:=by
    grind
  split at h
  ·
    rename_i hla;simp only[Bool.true_and]at hla;obtain⟨hlast,hbl⟩:=qi hla;have hsp:ops.toList=ops.toList.take (ops.toList.length-1)++ops.toList.drop (ops.toList.length-1):=(List.take_append_drop _ _).symm;obtain⟨ol,hol⟩:=hlast;have hlen1:(ops.toList.take (ops.toList.length-1)).length=ops.toList.length-1:=by grind
    obtain⟨tr,id',htr,h2,hid,hids⟩:=bR inl _ _ _ _ _ h;simp only[List.nil_append]at h2
    split at h2
    · cases h2
    rename_i hap;have hg:=bK hok.2.1;refine wp_region_any hmix ?_;refine lm (n0:=n0) (L:=s.st) (β:=β) (σ:=σ) (a:=a) (w:={ w with drawn:=w.drawn+1 }) (nt:=nt) hΓ (O3 hok.1) hok.2.1 hok.2.2 (N1 hdn) hsp (.inr ⟨⟨ol,hol⟩,fun j hj=>by grind⟩) htr hap (fun D a' w' hall hun inv=>?_) ops.size _ a _ (by simp) small (fun i j hi=>?_) (fun i hi=>hD0 i) (start tr)
    · obtain ⟨⟨β',σ',hp2⟩,hf⟩:=core hsp htr hid hids D a' w' hall inv;have gi:=giD hsp htr D a' w' hall hun inv;have same:Same (stD (fun _=>true) 0 tr s) ({ stD (fun _=>true) 0 tr s with st:=id' }:St0 E N):=Same.of (fun _=>rfl) (fun _=>rfl) (fun _=>rfl);have hp3:=hp2.same same;refine Sm inl hInl hΓ (O3 hok.1) (fun k o ho j want hgd=>by grind) (N1 hdn) _ _ id' ({ stD (fun _=>true) 0 tr s with st:=id' }:St0 E N) [] _ β' σ' a' w' hsp h2 hp3.sim (gi.same same) (fun n hn=>(hf n hn).same same) (fun s' ms' id2 β2 σ2 a2 w2 hk hp hle hf2 hgi=>?_);have wf':WF ({ s' with tm:=FY s'.tm,st:=id2 }:St0 E N):=⟨fun n hn=>⟨⟨(hf2 n hn).b,(hf2 n hn).h⟩,fun k tv hk=>by
        obtain⟨h1,h2⟩:=Hd hk;exact(hf2 n hn).t k tv h1 (fun m b hm=>by grind)⟩,fun n tv hn=>(Hd hn).2⟩
      have sub:Sub s' ({ s' with tm:=FY s'.tm,st:=id2 }:St0 E N):=Sub.of_same (fun _=>rfl) (fun _=>rfl);have hpt:=hp3.trans hp hid;refine hQ _ β2 σ2 a2 w2 hk ⟨hpt.sim.purged id2,(hpt.ext.trans (sub.ext P n0 (fun _=>False) β2 σ2 w2)).weaken (fun n h=>h.elim (fun h=>h) (fun h=>h.elim)),hpt.cleanB,hpt.cleanH,hpt.defers,fun n hn=>hpt.tmps n (fun h=>hn ?_)⟩ wf' (Nat.le_trans hid hle)
      rcases h with h|h
      · exact h
      rw[hsp,Lu];grind
    grind
  rename_i hla;obtain⟨tr,id',htr,h2,hid,hids⟩:=bR inl _ _ _ _ _ h;simp only[Bool.not_true,Bool.false_or,List.nil_append]at h2
  split at h2
  · cases h2
  rename_i hap;refine wp_region_any hmix ?_;refine lm (n0:=n0) (L:=s.st) (β:=β) (σ:=σ) (a:=a) (w:={ w with drawn:=w.drawn+1 }) (nt:=nt) (tail:=[]) hΓ (O3 hok.1) hok.2.1 hok.2.2 (N1 hdn) (List.append_nil _).symm (.inl rfl) htr hap (fun D a' w' hall hun inv=>?_) ops.size _ a _ (by simp) small (fun i j hi=>?_) (fun i hi=>hD0 i) (start tr)
  · obtain ⟨⟨β',σ',hp2⟩,hf⟩:=core (List.append_nil _).symm htr hid hids D a' w' hall inv;have wf':WF ({ stD (fun _=>true) 0 tr s with tm:=FY (stD (fun _=>true) 0 tr s).tm,st:=id' }:St0 E N):=⟨fun n hn=>⟨⟨(hf n hn).b,(hf n hn).h⟩,fun k tv hk=>by
      obtain⟨h1,h2⟩:=Hd hk;exact(hf n hn).t k tv h1 (fun m b hm=>by simp_all)⟩,fun n tv hn=>(Hd hn).2⟩
    have sub:Sub (stD (fun _=>true) 0 tr s) ({ stD (fun _=>true) 0 tr s with tm:=FY (stD (fun _=>true) 0 tr s).tm,st:=id' }:St0 E N):=Sub.of_same (fun _=>rfl) (fun _=>rfl);exact hQ _ β' σ' a' w' h2 ⟨hp2.sim.purged id',(hp2.ext.trans (sub.ext P n0 (fun _=>False) β' σ' w')).weaken (fun n h=>h.elim (fun h=>h) (fun h=>h.elim)),hp2.cleanB,hp2.cleanH,hp2.defers,hp2.tmps⟩ wf' hid
  simp_all
end
section
variable {E:Env} {N:Nat} {P:Program} {cfg:Cfg} {n0 n0':Nz} {nt:Nat} {β β':Nat→Option Nat} {σ σ':Nat→Option (Nat×Nat)} {s s' s2:St0 E N} {a:Act} {w w':World}
structure Enc (s:St0 E N) (keep used used':List Nat) (os:List (Option Nat)) (fr:List (Nat×Option (HEnt (std E N)))):Prop where
 up:∀n∈used,n∈used'
 src:∀n,some n∈os→n∉used∧n∈used'∧n∉keep∧∃h,s.getH n=some h∧h.frozen=false
 nd:(os.filterMap id).Nodup
 ok:FrOK s fr
 fz:∀y∈fr,∃h,s.getH y.1=some h∧(h.frozen=true∨(y.1∉used∧y.1∈used'∧y.1∉keep))
 ap:∀y∈fr,some y.1∉os
theorem Enc.nil {keep used:List Nat}:Enc s keep used used [] [] :=
 ⟨fun _ h=>h,fun _ h=>by simp at h,List.nodup_nil,fun _ _ h=>by simp at h,fun _ h=>by simp at h,fun _ h=>by simp at h⟩
theorem Enc.append {keep used u u':List Nat} {os os':List (Option Nat)} {fr fr':List (Nat×Option (HEnt (std E N)))} (h:Enc s keep used u os fr) (k:Enc s keep u u' os' fr') :
    Enc s keep used u' (os++os') (fr++fr') where
  up n hn:=k.up n (h.up n hn)
  src n hn:=by
    rcases List.mem_append.1 hn with hn|hn
    · obtain⟨a1,a2,a3⟩:=h.src n hn;exact⟨a1,k.up n a2,a3⟩
    obtain⟨a1,a2,a3⟩:=k.src n hn;exact⟨fun hm=>a1 (h.up n hm),a2,a3⟩
  nd:=by
    rw[List.filterMap_append];refine List.nodup_append.2 ⟨h.nd,k.nd,fun x hx y hy e=>?_⟩;subst e;have h1:some x∈os:=by simp_all
    have h2:some x∈os':=by simp_all
    exact(k.src x h2).1 (h.src x h1).2.1
  ok:=h.ok.append k.ok
  fz y hy:=by
    rcases List.mem_append.1 hy with hy|hy
    · obtain⟨e,a1,a2⟩:=h.fz y hy;exact⟨e,a1,a2.imp (fun h=>h) (fun h=>⟨h.1,k.up _ h.2.1,h.2.2⟩)⟩
    obtain⟨e,a1,a2⟩:=k.fz y hy;exact⟨e,a1,a2.imp (fun h=>h) (fun g=>⟨fun hm=>g.1 (h.up _ hm),g.2⟩)⟩
  ap y hy hm:=by
    rcases List.mem_append.1 hy with hy|hy<;>rcases List.mem_append.1 hm with hm|hm
    · exact h.ap y hy hm
    · obtain⟨e,a1,a2⟩:=h.fz y hy;obtain⟨b1,b2,b3,e',b4,b5⟩:=k.src _ hm
      simp_all
    · obtain⟨e,a1,a2⟩:=k.fz y hy;obtain⟨b1,b2,b3,e',b4,b5⟩:=h.src _ hm
      simp_all
    exact k.ap y hy hm
def Holds (cv:List PV) (j:Nat) (ls:List AQ):Prop:=∀(i:Nat) (l:AQ),ls[i]?=some l→AA cv (j+i)=l.pv
theorem Holds.left {cv:List PV} {j:Nat} {a b:List AQ} (h:Holds cv j (a++b)):Holds cv j a:=fun i l hl=>h i l (by
 grind)
theorem Holds.right {cv:List PV} {j:Nat} {a b:List AQ} (h:Holds cv j (a++b)):Holds cv (j+a.length) b:=fun i l hl=>by
 have:=h (a.length+i) l (by grind)
 grind
abbrev DB (E:Env) (N:Nat) (cv:List PV) (j q:Nat) (sc:SlotC):AC0 E N×List (Nat×HEnt (std E N)):=UA (O:=std E N) cv j q sc
abbrev AP (E:Env) (N:Nat) (cv:List PV) (j q:Nat) (scs:List SlotC):List (AC0 E N)×List (Nat×HEnt (std E N)):=L3 (O:=std E N) cv j q scs
theorem eI (m:Mem P n0 β σ s w) {c:AC0 E N} {v:Value} {t:TypeId} {r:Rows} {fr:List (Nat×Option (HEnt (std E N)))} {nw nw':Bool} (hc:RelC P n0 β σ s w c v) (ht:BJ (AK P t) c=true)
    {k':Nat} (h:RM.run s (kJ (O:=std E N) c) 0=.ok ((.rows r,fr,nw),k')) (hn:nw'=true→nw=true) {sf:St0 E N} (hsub:Sub s sf) (hf:Frz sf fr):Rep P w (StB n0 β σ sf nw') t v (.rows r):=by
  obtain⟨_,_,h3⟩:=XD m hc h;exact h3 t sf ht hsub (fun x hx h hh=>by obtain⟨h',e1,e2⟩:=hf x hx;simp_all) (fun x hx=>by obtain⟨h',e1,_⟩:=hf x hx;simp_all) nw' hn
theorem yS (m:Mem P n0 β σ s w) {keep used u:List Nat} {sc:SlotC} {c:AC0 E N} {l:AQ} (h:Iy (O:=std E N) s keep used sc c=.ok (l,u)) {v:Value} (hc:RelC P n0 β σ s w c v)
    {cv:List PV} {j:Nat} (hl:AA cv j=l.pv) (q:Nat) :
    ∃(os:List (Option Nat)) (fr:List (Nat×Option (HEnt (std E N)))),Enc s keep used u os fr∧Ents P s q os (DB E N cv j q sc).2∧(∀p∈(DB E N cv j q sc).2,p.2.dirty=true) ∧
      (∀n∈(DB E N cv j q sc).1.names,q≤n∧n<q+(DB E N cv j q sc).2.length) ∧
      ∀(sf:St0 E N),Sub s sf→Frz sf fr→∀(σ2:Nat→Option (Nat×Nat)) (S:St0 E N),(∀nw b,StB n0 β σ sf nw b→StB n0 β σ2 S nw b)→Wired σ σ2 S q os (DB E N cv j q sc).2→RelC P n0 β σ2 S w (DB E N cv j q sc).1 v:=by
  cases sc with
  |int k =>
    cases c<;>simp only[Iy]at h<;>try cases h
    rename_i k' i
    split at h<;>cases h
    rename_i hk;have:=He.1 hk;subst this;refine⟨[],[],Enc.nil,trivial,fun p hp=>by trivial,fun n hn=>by trivial,fun sf _ _ σ2 S _ _=>?_⟩;have hv:v=.int k i:=hc;show v=.int k (pvI (AA cv j));rw[hl];exact hv
  |bool =>
    cases c<;>simp only[Iy]at h<;>try cases h
    rename_i b;refine⟨[],[],Enc.nil,trivial,fun p hp=>by trivial,fun n hn=>by trivial,fun sf _ _ σ2 S _ _=>?_⟩;have hv:v=.bool b:=hc;show v=.bool (pvB (AA cv j));rw[hl];exact hv
  |str =>
    cases c<;>simp only[Iy]at h<;>try cases h
    rename_i b;refine⟨[],[],Enc.nil,trivial,fun p hp=>by trivial,fun n hn=>by trivial,fun sf _ _ σ2 S _ _=>?_⟩;have hv:v=.string b:=hc;show v=.string (pvS (AA cv j));rw[hl];exact hv
  |any T =>
    cases c<;>simp only[Iy]at h<;>try cases h
    split at h<;>cases h
    exact⟨[],[],Enc.nil,trivial,fun p hp=>by trivial,fun n hn=>by trivial,fun sf _ _ σ2 S _ _=>hc⟩
  |opq nw =>
    cases c<;>simp only[Iy]at h<;>try cases h
    rename_i nw' n
    split at h<;>cases h
    rename_i hg;refine⟨[],[],Enc.nil,trivial,fun p hp=>by trivial,fun n hn=>by trivial,fun sf hsub _ σ2 S hst _=>?_⟩;obtain⟨t,ht,hr⟩:=hc;refine⟨t,ht,?_⟩;show Rep P w _ t v (.int (pvI (AA cv j)));rw[hl];exact hr.st (fun b hb=>hst nw b ⟨fun hm=>hb.1 (hsub.inM hm),hb.2.mono (fun e=>by simp_all)⟩)
  |own e nw =>
    have one:∀n∈(DB E N cv j q (.own e nw)).1.names,q≤n∧n<q+(DB E N cv j q (.own e nw)).2.length:=fun n hn=>by
      simp[DB,UA,AC.names]at hn;subst hn;simp[DB,UA]
    have dt:∀p∈(DB E N cv j q (.own e nw)).2,p.2.dirty=true:=fun p hp=>by simp[DB,UA]at hp;grind
    cases c<;>simp only[Iy]at h<;>try cases h
    · rename_i e'
      split at h<;>cases h
      rename_i he;have:=AG.1 he;subst this;obtain⟨t0,ts0,ht0,hts0,av,hv⟩:=hc;have hl':pvL (AA cv j)=[]:=by rw[hl];rfl
      refine⟨[none],[],⟨fun _ h=>h,fun n hn=>by simp at hn,List.nodup_nil,fun _ _ h=>by simp at h,fun _ h=>by simp at h,fun _ h=>by simp at h⟩,⟨rfl,rfl,⟨hl',t0,ts0,ht0,hts0⟩,trivial⟩,dt,one,fun sf _ _ σ2 S _ hw=>⟨⟨t0,ht0,_,_,_,hv⟩,fun h3 hh3=>?_⟩⟩;rw[hw.2.1]at hh3;cases hh3;exact⟨rfl,.inr ⟨hw.1,by simp_all,av,hv⟩⟩
    rename_i e' id;cases hh:s.getH id with
    |none=>simp_all
    |some en =>
      rw[hh]at h;simp only at h
      split at h<;>cases h
      rename_i hg;simp only[zzj,Bool.not_eq_true',Bool.or_eq_true]at hg;obtain⟨⟨⟨⟨⟨g1,g2⟩,g3⟩,g4⟩,g5⟩,g6⟩:=hg;have e1:=AG.1 g1;have e2:=AG.1 g2;subst e1;have nu:id∉used:=fun hm=>by rw[Cd.2 hm]at g5;cases g5
      have nk:id∉keep:=fun hm=>by rw[Cd.2 hm]at g6;cases g6
      have hl':pvL (AA cv j)=en.l:=by rw[hl];rfl
      refine⟨[some id],[],⟨fun _ h=>zzm _ h,fun n hn=>?_,by simp,fun _ _ h=>by simp at h,fun _ h=>by simp at h,fun _ h=>by simp at h⟩,⟨rfl,rfl,⟨en,hh,e2,hl',g3,fun h=>?_⟩,trivial⟩,dt,one,fun sf _ _ σ2 S _ hw=>?_⟩
      · simp_all
      · simp_all
      exact mR (h':={ e:=e,frozen:=false,nw:=nw,l:=pvL (AA cv j),dirty:=true }) hc hh e2 hl' hw.1 hw.2.1
  |imm e nw =>
    have one:∀n∈(DB E N cv j q (.imm e nw)).1.names,q≤n∧n<q+(DB E N cv j q (.imm e nw)).2.length:=fun n hn=>by
      trivial
    have dt:∀p∈(DB E N cv j q (.imm e nw)).2,p.2.dirty=true:=fun p hp=>by trivial
    cases c<;>simp only[Iy]at h<;>try cases h
    · rename_i e'
      split at h<;>cases h
      rename_i he;have:=AG.1 he;subst this;have hl':pvL (AA cv j)=[]:=by rw[hl];rfl
      refine⟨[],[],Enc.nil,trivial,dt,one,fun sf hsub hf σ2 S hst _=>?_⟩;have hc0:=hc;obtain⟨t0,ts0,ht0,hts0,av,hv⟩:=hc0;refine⟨t0,ht0,?_⟩;show Rep P w _ t0 v (.rows (pvL (AA cv j)));rw[hl'];exact(eI m (nw':=nw) hc (t:=t0) (by rw[ht0];exact he) rfl (fun _=>rfl) hsub hf).st (hst nw)
    · rename_i e' nw' r
      split at h<;>cases h
      rename_i hg;simp only[zzj,Bool.not_eq_true',Bool.or_eq_true]at hg;have:=AG.1 hg.1;subst this;have hl':pvL (AA cv j)=r:=by rw[hl];rfl
      refine⟨[],[],Enc.nil,trivial,dt,one,fun sf hsub hf σ2 S hst _=>?_⟩;have hc0:=hc;obtain⟨t0,ht0,hv⟩:=hc0;refine⟨t0,ht0,?_⟩;show Rep P w _ t0 v (.rows (pvL (AA cv j)));rw[hl'];exact(eI m (nw':=nw) hc (t:=t0) (by rw[ht0];exact hg.1) rfl (fun h=>by
        simp_all) hsub hf).st (hst nw)
    rename_i e' id;cases hh:s.getH id with
    |none=>simp_all
    |some en =>
      rw[hh]at h;simp only at h
      split at h<;>cases h
      rename_i hg;simp only[zzj,Bool.not_eq_true',Bool.or_eq_true]at hg;obtain⟨⟨⟨⟨g1,g2⟩,g3⟩,g4⟩,g5⟩:=hg;have e1:=AG.1 g1;have e2:=AG.1 g2;subst e1;have nu:id∉used:=fun hm=>by rw[Cd.2 hm]at g5;cases g5
      have hl':pvL (AA cv j)=en.l:=by rw[hl];rfl
      refine⟨[],[(id,some { en with frozen:=true,dirty:=true })],⟨fun n hn=>?_,fun n hn=>by simp at hn,List.nodup_nil,fun n v hm=>?_,fun y hy=>?_,fun y hy=>by simp⟩,trivial,dt,one,fun sf hsub hf σ2 S hst _=>?_⟩
      · grind
      · simp_all
      · simp at hy;subst hy;refine⟨en,hh,?_⟩;cases hz:en.frozen
        · refine .inr ⟨nu,zzl,fun hm=>?_⟩;rw[hz,Cd.2 hm]at g4;simp at g4
        simp_all
      obtain⟨t0,hte,_⟩:=hc.1;have ht0:AK P t0=.sl en.e:=by simp_all
      refine⟨t0,by omega,?_⟩;show Rep P w _ t0 v (.rows (pvL (AA cv j)));rw[hl'];exact(eI m (nw':=nw) (nw:=en.nw) (fr:=[(id,some { en with frozen:=true,dirty:=true })]) hc (t:=t0) (by rw[ht0];exact AG.2 e2.symm) (by
        show RM.run s (RM.h id _) 0=_;simp only[RM.run];rw[hh];rfl) (fun h=>by
        simp_all) hsub hf).st (hst nw)
end
end Go.Px
end
