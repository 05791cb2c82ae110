/- Part 5. -/
import Derived.Test.YtkknkmdpelogmaaGreatDoorPart04
import Derived.Test.YtkknkmdpelogmaaGreatDoorPart02
import Derived.MapKept
import Derived.DeepKeys3
import Derived.Laws.StructEq
set_option linter.unusedVariables false
set_option linter.unusedSimpArgs false
section
namespace Go.Px
section
variable {E:Env} {N:Nat} {P:Program} {n0 n0':Nz} {nt:Nat} {β β':Nat→Option Nat} {σ σ':Nat→Option (Nat×Nat)} {s s':St0 E N} {a:Act} {w w':World}
theorem RelC.moved{n0c:Nz}{σ1:Nat→Option (Nat×Nat)}{s1 s2:St0 E N}{q len:Nat}{nw:Bool}{c:AC0 E N}{v:Value}(hc:OkC q len nw c)(h:RelC P n0c noB σ1 s1 w c v)
    (hσ:∀n,q≤n→n<q+len→σ' n=σ1 n∧s2.getH n=s1.getH n) (hst:∀b,StB n0c noB σ1 s1 nw b→StB n0 β σ' s2 nw b):RelC P n0 β σ' s2 w c v:=by
  cases c with
  |int k i=>exact h
  |bool b=>exact h
  |str x=>exact h
  |imm e n l=>
    have:n=nw:=hc;subst this;obtain⟨t,ht,hr⟩:=h;exact⟨t,ht,hr.st hst⟩
  |own e id=>
    obtain⟨h1,h2⟩:=h;obtain⟨e1,e2⟩:=hσ id hc.1 hc.2;refine⟨h1,fun h3 hh3=>?_⟩;rw[e2]at hh3;obtain⟨a1,a2⟩:=h2 h3 hh3;refine⟨a1,?_⟩;unfold ue at a2⊢
    simp_all
  |opq n l=>
    have:n=nw:=hc;subst this;obtain⟨t,ht,hr⟩:=h;exact⟨t,ht,hr.st hst⟩
  |_=>trivial
theorem RelCs.moved{n0c:Nz}{σ1:Nat→Option (Nat×Nat)}{s1 s2:St0 E N}{q len:Nat}{nw:Bool}(hσ:∀n,q≤n→n<q+len→σ' n=σ1 n∧s2.getH n=s1.getH n)(hst:∀b,StB n0c noB σ1 s1 nw b→StB n0 β σ' s2 nw b) :
    ∀{cs:List (AC0 E N)} {vs:List Value},(∀x∈cs,OkC q len nw x)→RelCs P n0c noB σ1 s1 w cs vs→RelCs P n0 β σ' s2 w cs vs
  | [],[],_,h=>h
  |c::cs,v::vs,hc,h=>⟨RelC.moved (hc c zzm) h.1 hσ hst,RelCs.moved hσ hst (fun x hx=>hc x (zzn _ hx)) h.2⟩
  | [],_::_,_,h=>h.elim
  |_::_,[],_,h=>h.elim
theorem RelVals.moved{n0c:Nz}{σ1:Nat→Option (Nat×Nat)}{s1 s2:St0 E N}{q len:Nat}{nw:Bool}(hσ:∀n,q≤n→n<q+len→σ' n=σ1 n∧s2.getH n=s1.getH n)(hst:∀b,StB n0c noB σ1 s1 nw b→StB n0 β σ' s2 nw b) :
    ∀{cs:List (Val (std E N))} {vs:List Value},(∀v∈cs,∀x∈v.cs,OkC q len nw x)→RelVals P n0c noB σ1 s1 w cs vs→RelVals P n0 β σ' s2 w cs vs
  | [],[],_,h=>h
  |c::cs,v::vs,hc,h=>⟨⟨RelCs.moved hσ hst (hc c zzm) h.1.1,h.1.2⟩,RelVals.moved hσ hst (fun x hx=>hc x (zzn _ hx)) h.2⟩
  | [],_::_,_,h=>h.elim
  |_::_,[],_,h=>h.elim
theorem RelAV.moved{n0c:Nz}{σ1:Nat→Option (Nat×Nat)}{s1 s2:St0 E N}{q len:Nat}{nw:Bool}(hσ:∀n,q≤n→n<q+len→σ' n=σ1 n∧s2.getH n=s1.getH n)(hst:∀b,StB n0c noB σ1 s1 nw b→StB n0 β σ' s2 nw b)
    {vs:List (Val (std E N))} {v:Value} (hc:∀v∈vs,∀x∈v.cs,OkC q len nw x) (h:RelAV P n0c noB σ1 s1 w (LY vs) v):RelAV P n0 β σ' s2 w (LY vs) v:=by
  match vs,hc,h with
  | [x],hc,h=>exact⟨RelCs.moved hσ hst (hc x zzm) h.1,h.2⟩
  | [],hc,h=>obtain⟨us,hv,hr⟩:=h;exact⟨us,hv,RelVals.moved hσ hst hc hr⟩
  |x::y::r,hc,h=>obtain⟨us,hv,hr⟩:=h;exact⟨us,hv,RelVals.moved hσ hst hc hr⟩
def ACA(a:Act)(P:Program)(n0:Nz)(β:Nat→Option Nat)(σ:Nat→Option (Nat×Nat))(s:St0 E N)(w:World)(new:Nat→Prop)(wr:Wr (std E N))(vs:List (Val (std E N))):Ending→World→Prop
 | .returned v,w'=>∃σ',Mem P n0 β σ' (s.apply wr) w'∧Ext P n0 new β σ s w β σ' (s.apply wr) w'∧Tidy a new s (s.apply wr)∧RelAV P n0 β σ' (s.apply wr) w' (LY vs) v
 |_,_=>False
theorem uW{b:Blk}(h:b.c=true){Q:Blk→Prop}(q:Q ⟨b.b,true⟩):Q b:=by
 obtain⟨b,c⟩:=b
 simp_all
theorem AD3(hn0:n0.n≤w.heap.size)(m:Mem P n0 β σ s w)(hkp:Kept P n0 β σ s w){ci:CI}(hv:Ko P E N ci){fn:Func}(hfn:P.funcs[ci.f]?=some fn){args:List (AV (std E N))}{vals:List Value}{ls:List AW}{fr:List (Nat×Option (HEnt (std E N)))}{u:List Nat}{k k':Nat}
    (hr:RelArgs P n0 β σ s w args vals) (ha:LM P fn.params.toList args=true) (hf:LS args=some ci.fns) (hnc:(ci.nw||V4 args)=true) (hl:RM.run s (UH (O:=std E N) P ci.gives [] args) k=.ok ((ls,fr,u),k')) (hgiv:fU ci.gives u fr=true)
    {rs:List PV} (he:E ci.f ci.fns (ls.map Leaf.pv)=some rs) {id:Nat} {vs:List (Val (std E N))} {nh:List (Nat×HEnt (std E N))} (hb:Bw (O:=std E N) P ci.ow ci.nw rs 0 id fn.resultTypes.toList=some (vs,nh))
    (hid:∀n,id≤n→n<id+nh.length→Fresh a s n) {wr:Wr (std E N)} (ht0:wr.ts=[]) (hwb:wr.bs=[])
    (hwr:wr.hs=(match ci.nw with|true=>[]|false=>fr)++(u.map (fun n=>(n,none))++nh.map fun(n,h)=>(n,some h))) :
    Calls P ci.f vals.toArray w (ACA a P n0 β σ s w (fun n=>id≤n∧n<id+nh.length) wr vs):=by
  obtain⟨frOK,vs0,nhc,ids,a1,a2,a3,a4,a5,a6,a7,a8⟩:=dz m hr ha hf hl 1;have hgv:=hgiv;unfold fU at hgv;rw[zzk]at hgv;have hfru:=gd hgv.1
  let sk:=s.apply ({ hs:=fr }:Wr (std E N))
  have subk:Sub s sk:=frOK.sub rfl rfl
  let U:Blk→Prop:=fun b=>(¬InM β σ sk b.b∧Old n0 false b)∨(b.c=true∧∃i cap h,i∈u∧s.getH i=some h∧h.frozen=false∧σ i=some (b.b,cap))∨(ci.nw=true∧∃n e,s.getB n=some e∧β n=some b.b)
  let n0c:Nz:=⟨w.heap.size,U⟩
  let σc:Nat→Option (Nat×Nat):=fun n=>match ids[n-1]? with
    |some (some i)=>σ i
    |_=>none
  have rowc:=a2.row;have gH0:∀n,(Aa nhc).getH n=AN nhc n:=fun n=>rfl
  have gB0:∀n,(Aa nhc).getB n=none:=fun n=>rfl
  have find:∀n h,(Aa nhc).getH n=some h→∃i o,n=1+i∧ids[i]?=some o∧y5 P s h o∧h.frozen=false∧σc n=o.bind σ:=fun n h hh=>by
    obtain⟨i,o,h1,h2,h3,h4⟩:=a2.find (rowc.get hh);refine⟨i,o,h1,h2,h3,h4,?_⟩;have:n-1=i:=by omega
    simp only[σc,this,h2];cases o<;>rfl
  have inM0:∀b,InM noB σc (Aa nhc) b→∃i cap h,i∈u∧s.getH i=some h∧h.frozen=false∧σ i=some (b,cap):=fun b hb=>by
    rcases hb with⟨n,e,h1,h2⟩|⟨n,h,cap,h1,h2,h3⟩
    · trivial
    obtain⟨i,o,e1,e2,e3,e4,e5⟩:=find n h h1;rw[e5]at h3;cases o with
    |none=>cases h3
    |some x=>
      obtain⟨h0,q1,q2,q3,q4,q5⟩:=e3;exact⟨x,cap,h0,(a5 x (List.mem_of_getElem? e2)).1,q1,q4,h3⟩
  have inMs:∀b,InM noB σc (Aa nhc) b→InM β σ s b:=fun b hb=>by
    obtain⟨i,cap,h,_,h1,h2,h3⟩:=inM0 b hb;exact .inr ⟨i,h,cap,h1,h2,h3⟩
  have inMk:∀b,InM noB σc (Aa nhc) b→InM β σ sk b:=fun b hb=>by
    obtain⟨i,cap,h,h0,h1,h2,h3⟩:=inM0 b hb;refine .inr ⟨i,h,cap,?_,h2,h3⟩;show AN (BR s.hp fr) i=some h;rw[Eu (fun hm=>by
      obtain⟨x,hx,e⟩:=List.mem_map.1 hm;exact hfru x hx (e▸h0))]
    exact h1
  have stc:∀nw b,StB n0 β σ s nw b→b.b<w.heap.size→StB n0c noB σc (Aa nhc) false b:=fun nw b hb hlt=>
    ⟨fun hm=>hb.1 (inMs _ hm),⟨fun e=>(by cases e),.inr ⟨hlt,.inl ⟨fun hm=>hb.1 (subk.inM hm),hb.2.mono (fun e=>(by cases e))⟩⟩⟩⟩
  have m0:Mem P n0c noB σc (Aa nhc) w:=by
    refine⟨fun b e h=>(by trivial),fun n h hh=>?_,fun b b' e e' blk h=>(by trivial),fun n n' h h' blk cap cap' hh hh' h1 h2=>?_,fun b e i h blk cap hb=>(by trivial)⟩
    · obtain⟨i,o,e1,e2,e3,e4,e5⟩:=find n h hh;have hnw:=a7 (n,h) (rowc.get hh);cases o with
      |none=>
        obtain⟨q1,t,ts,q2,q3⟩:=e3;exact .inl ⟨t,ts,q2,q3,by rw[q1];simp,.inl ⟨by rw[e5];rfl,q1⟩⟩
      |some x=>
        obtain⟨h0,q1,q2,q3,q4,q5⟩:=e3;have hnw':h.nw=false:=hnw;refine(m.H x h0 q1).view q2 q3 (by rw[e5];rfl) (fun blk cap hs ho=>?_) (fun b hb=>by rw[hnw'];exact stc _ b hb);rw[hnw'];exact⟨fun e=>by(cases e),.inr ⟨m.ltH q1 hs,.inr (.inl ⟨rfl,x,cap,h0,(a5 x (List.mem_of_getElem? e2)).1,q1,q4,hs⟩)⟩⟩
    obtain⟨i,o,e1,e2,e3,e4,e5⟩:=find n h hh;obtain⟨i',o',e1',e2',e3',e4',e5'⟩:=find n' h' hh';rw[e5]at h1;rw[e5']at h2;cases o with
    |none=>cases h1
    |some x=>cases o' with
      |none=>cases h2
      |some x'=>
        obtain⟨h0,q1,_⟩:=e3;obtain⟨h0',q1',_⟩:=e3';have:=m.uH x x' h0 h0' blk cap cap' q1 q1' h1 h2;subst this;rw[e1,e1',XX a6 e2 e2']
  have wired:Wired σ σc (Aa nhc) 1 ids nhc:=Z2 (fun i o p h1 h2=>by
    have h3:=rowc.idx h2;refine⟨?_,?_⟩
    · have:1+i-1=i:=by omega
      simp only[σc,this,h1];cases o<;>rfl
    rw[gH0,←h3];exact rowc.has (List.mem_of_getElem? h2))
  have rargs:=a8 sk n0c σc (Aa nhc) subk (frOK.frz rfl) (fun b hb hlt=>
    ⟨fun hm=>hb.1 (inMk _ hm),⟨fun e=>(by cases e),.inr ⟨hlt,.inl ⟨hb.1,hb.2⟩⟩⟩⟩) (fun hn b e blk hb hbl=>⟨fun hm=>by
      obtain⟨i,cap,h,h0,h1,h2,h3⟩:=inM0 blk hm;exact m.uX b e i h blk cap hb h1 hbl h3,⟨fun e=>(by cases e),.inr ⟨m.ltB hb hbl,.inr (.inr ⟨by simp_all,b,e,hb,hbl⟩)⟩⟩⟩) wired
  have hlsl:(ls.map Leaf.pv).map PV.leaf=ls:=by
    rw[List.map_map]
    conv=>rhs;rw[←List.map_id ls]
    exact List.map_congr_left (fun x _=>Leaf.leaf_pv x)
  have hnil:mO ci.gives=true→∀q,σc q=none:=fun hn q=>by
    have hu:u=[]:=by
      simp_all
    show(match ids[q-1]? with|some (some i)=>σ i|_=>none)=none
    split
    · rename_i i hi;have:=(a5 i (List.mem_of_getElem? hi)).1;rw[hu]at this;cases this
    rfl
  have hcall:=hv fn hfn (ls.map Leaf.pv) rs he vs0 nhc (by simp_all) n0c σc w vals rfl m0 rargs hnil (fun g hg=>⟨(hkp g hg).1,fun hm=>(hkp g hg).2.1 (inMs g hm),Nat.lt_of_lt_of_le (hkp g hg).2.2 hn0⟩);refine Calls.mono hcall (fun e w' hret=>?_);cases e with
  |panicked c=>exact hret
  |outgrown=>exact hret
  |returned v=>
    obtain⟨r1,r2,r3,r4,r5,r6⟩:=hret;obtain⟨σ1,vs',nh',r7,r8,r9,r10⟩:=r6 id;rw[hb]at r7;cases r7;obtain⟨row1,okh,okc⟩:=V9 hb
    let frx:=match ci.nw with|true=>[]|false=>fr
    let base:=s.apply ({ hs:=frx }:Wr (std E N))
    let s2:=s.apply wr
    let σ2:Nat→Option (Nat×Nat):=fun n=>if id≤n∧n<id+nh.length then σ1 n else σ n
    have frxOK:FrOK s frx:=by
      show FrOK s (match ci.nw with|true=>[]|false=>fr);cases ci.nw
      · exact frOK
      exact fun n v hm=>by simp at hm
    have gB:=fun n=>State.getB_apply0 s wr hwb n
    have gT:=fun n=>State.getT_apply0 s wr ht0 n
    have hs2:s2.hp=BR (BR (BR s.hp frx) (u.map fun n=>(n,none))) (nh.map fun(n,h)=>(n,some h)):=by
      show BR s.hp wr.hs=_;rw[hwr,FQ,FQ]
    have g1:∀n,id≤n→n<id+nh.length→s2.getH n=AN nh n:=fun n h1 h2=>by
      obtain⟨h,hh⟩:=row1.at h1 h2;rw[row1.has hh];show AN s2.hp n=_;rw[hs2];refine X7 (fun x hx e=>?_) ⟨(n,some h),List.mem_map.2 ⟨(n,h),hh,rfl⟩,rfl⟩;obtain⟨y,hy,rfl⟩:=List.mem_map.1 hx;have h3:=row1.has (n:=y.1) (h:=y.2) hy;simp only at e;rw[e,row1.has hh]at h3;cases h3;rfl
    have g2:∀n,¬(id≤n∧n<id+nh.length)→s2.getH n=if n∈u then none else base.getH n:=fun n hn=>by
      show AN s2.hp n=_;rw[hs2,Eu (fun hm=>hn (by
        obtain⟨x,hx,rfl⟩:=List.mem_map.1 hm;obtain⟨y,hy,rfl⟩:=List.mem_map.1 hx;exact row1.mem y hy))]
      split
      · rename_i hu;exact X7 (fun x hx e=>by obtain⟨y,hy,rfl⟩:=List.mem_map.1 hx;rfl) ⟨(n,none),List.mem_map.2 ⟨n,hu,rfl⟩,rfl⟩
      rename_i hu;rw[Eu (fun hm=>hu (by
        simp_all))]
      rfl
    have old:∀n h',¬(id≤n∧n<id+nh.length)→s2.getH n=some h'→n∉u∧base.getH n=some h'∧∃h0,s.getH n=some h0∧(h'=h0∨h'={ h0 with frozen:=true,dirty:=true }):=fun n h' hn hh=>by
      rw[g2 n hn]at hh
      split at hh
      · cases hh
      rename_i hu;exact⟨hu,hh,frxOK.get rfl n h' hh⟩
    have nogiveH:∀n h0 b cap,n∉u→s.getH n=some h0→σ n=some (b,cap)→¬InM noB σc (Aa nhc) b:=fun n h0 b cap hu hh hs hm=>by
      obtain⟨i,cap',h,q1,q2,q3,q4⟩:=inM0 b hm;exact hu (m.uH n i h0 h b cap cap' hh q2 hs q4▸q1)
    have nogiveB:∀n e b,s.getB n=some e→β n=some b→¬InM noB σc (Aa nhc) b:=fun n e b hh hs hm=>by
      obtain⟨i,cap',h,q1,q2,q3,q4⟩:=inM0 b hm;exact m.uX n e i h b cap' hh q2 hs q4
    have in1:∀n h b cap,id≤n∧n<id+nh.length→s2.getH n=some h→σ1 n=some (b,cap)→InM noB σ1 (Aa nh) b:=fun n h b cap hn hh hs=>by
      rw[g1 n hn.1 hn.2]at hh;exact .inr ⟨n,h,cap,hh,(okh _ (row1.get hh)).2.1,hs⟩
    have s2old:∀n,¬(id≤n∧n<id+nh.length)→σ2 n=σ n:=fun n hn=>by simp only[σ2,if_neg hn]
    have s2new:∀n,id≤n∧n<id+nh.length→σ2 n=σ1 n:=fun n hn=>by simp only[σ2,if_pos hn]
    have x:Ext P n0 (fun n=>id≤n∧n<id+nh.length) β σ s w β σ2 s2 w':=by
      refine⟨r1,r2,r3,r4,fun b hlt hm=>.inl (r5 b hlt (fun h=>hm (inMs b h))),fun b hb=>?_,fun n e hh hn=>?_,fun n h' hh hn=>?_⟩
      · rcases hb with⟨n,e,h1,h2⟩|⟨n,h,cap,h1,h2,h3⟩
        · rw[gB]at h1;exact .inl (.inl ⟨n,e,h1,h2⟩)
        by_cases hn:id≤n∧n<id+nh.length
        · rw[s2new n hn]at h3;exact(r10 b (in1 n h b cap hn h1 h3)).imp (inMs b) (fun h=>h)
        rw[s2old n hn]at h3;obtain⟨_,_,h0,q1,q2⟩:=old n h hn h1
        rcases q2 with rfl|rfl
        · exact .inl (.inr ⟨n,h,cap,q1,h2,h3⟩)
        cases h2
      · rw[gB]at hh;exact⟨⟨e,hh⟩,rfl⟩
      obtain⟨_,_,h0,q1,q2⟩:=old n h' hn hh;refine⟨h0,q1,s2old n hn,?_⟩
      rcases q2 with rfl|rfl<;>exact⟨rfl,fun _=>rfl⟩
    have stR:∀b,StB n0c noB σ1 (Aa nh) ci.nw b→StB n0 β σ2 s2 ci.nw b:=fun b hb=>by
      have hge:(¬w.heap.size≤b.b)→ci.nw=false:=fun h=>by
        cases hnw:ci.nw
        · rfl
        exact(h (hb.2.1 hnw)).elim
      refine⟨fun hm=>?_,⟨fun e=>Nat.le_trans hn0 (hb.2.1 e),?_⟩⟩
      · rcases hm with⟨n,e,h1,h2⟩|⟨n,h,cap,h1,h2,h3⟩
        · rw[gB]at h1;have hlt:=m.ltB h1 h2
          rcases hb.2.2 with h|⟨_,⟨h,_⟩|⟨_,i,cap',h,q1,q2,q3,q4⟩|⟨hnw,_⟩⟩
          · have:w.heap.size≤b.b:=h.1;omega
          · exact h (.inl ⟨n,e,by trivial,h2⟩)
          · exact m.uX n e i h b.b cap' h1 q2 h2 q4
          simp_all
        by_cases hn:id≤n∧n<id+nh.length
        · rw[s2new n hn]at h3;exact hb.1 (in1 n h b.b cap hn h1 h3)
        rw[s2old n hn]at h3;obtain⟨hu,hbase,h0,q1,q2⟩:=old n h hn h1;have hlt:=m.ltH q1 h3
        rcases hb.2.2 with h|⟨_,⟨h,_⟩|⟨_,i,cap',hi,p1,p2,p3,p4⟩|⟨hnw,_⟩⟩
        · have:w.heap.size≤b.b:=h.1;omega
        · have hnw:=hge (by omega);refine h (.inr ⟨n,_,cap,?_,h2,h3⟩);have:base=sk:=by simp only[base,frx,hnw];rfl
          rw[←this];exact hbase
        · exact hu (m.uH n i h0 hi b.b cap cap' q1 p2 h3 p4▸p1)
        simp_all
      rcases hb.2.2 with h|⟨hl9,⟨_,h⟩|⟨hc9,i,cap',hi,p1,p2,p3,p4⟩|⟨hnw,_⟩⟩
      · exact .inl ⟨Nat.le_trans hn0 h.1,h.2⟩
      · exact h.2
      · rcases m.H i hi p2 with⟨t,ts,_,_,_,hm⟩|hM
        case inr=>exact uW (Q:=fun b=>(n0.n≤b.b∧b.c=true)∨(b.b<n0.n∧n0.U b)) hc9 (hM.blk p4).2.2
        rcases hm with⟨h1,_⟩|⟨blk,cap,cells,el,h1,_,_,_,_,ho,_⟩
        · simp_all
        rw[h1]at p4;cases p4;exact uW (Q:=fun b=>(n0.n≤b.b∧b.c=true)∨(b.b<n0.n∧n0.U b)) hc9 ho.2
      have h1:w.heap.size≤b.b:=hb.2.1 hnw;have h2:b.b<w.heap.size:=hl9;omega
    have newold:∀n h b cap,id≤n∧n<id+nh.length→s2.getH n=some h→σ1 n=some (b,cap)→(∀n' h' cap',¬(id≤n'∧n'<id+nh.length)→s2.getH n'=some h'→σ n'≠some (b,cap'))∧(∀n' e,s.getB n'=some e→β n'≠some b):=fun n h b cap hn hh hs=>by
      have:=r10 b (in1 n h b cap hn hh hs);refine⟨fun n' h' cap' hn' hh' hs'=>?_,fun n' e hh' hs'=>?_⟩
      · obtain⟨hu,_,h0,q1,_⟩:=old n' h' hn' hh'
        rcases this with h|h
        · exact nogiveH n' h0 b cap' hu q1 hs' h
        have:=m.ltH q1 hs';omega
      rcases this with h|h
      · exact nogiveB n' e b hh' hs' h
      have:=m.ltB hh' hs';omega
    have tidy:Tidy a (fun n=>id≤n∧n<id+nh.length) s s2:=by
      refine⟨fun n hf hn=>⟨fun q tv hq=>?_,fun q e hq=>?_,fun q h hq=>?_⟩,fun n e hh hd=>?_,fun n h hh hd=>?_⟩
      · rw[gT]at hq;exact hf.t q tv hq
      · rw[gB]at hq;exact hf.b q e hq
      · by_cases hr:id≤q∧q<id+nh.length
        · omega
        obtain⟨_,_,h0,q1,_⟩:=old q h hr hq;exact hf.h q h0 q1
      · rw[gB]at hh;exact hh
      by_cases hr:id≤n∧n<id+nh.length
      · rw[g1 n hr.1 hr.2]at hh;have:=(okh _ (row1.get hh)).2.2
        simp_all
      obtain⟨_,_,h0,q1,q2⟩:=old n h hr hh
      rcases q2 with rfl|rfl
      · exact q1
      cases hd
    refine⟨σ2,⟨fun n e hh=>?_,fun n h hh=>?_,fun b b' e e' blk h h'=>?_,fun n n' h h' blk cap cap' hh hh' h1 h2=>?_,fun b e i h blk cap hb' hi h1 h2=>?_⟩,x,tidy,?_⟩
    · rw[gB]at hh;obtain⟨blk,cells,el,q1,q2,q3,q4⟩:=m.B n e hh;exact⟨blk,cells,el,q1,(r5 blk (Er q2) (nogiveB n e blk hh q1)).trans q2,x.relCs (fun k hk hn=>((hid k hn.1 hn.2).b n e hh).2 hk) q3,q4⟩
    · by_cases hn:id≤n∧n<id+nh.length
      · have hh':=hh;rw[show(s.apply wr).getH n=AN nh n from g1 n hn.1 hn.2]at hh';have hnw:h.nw=ci.nw:=(okh _ (row1.get hh')).1;refine(r8.H n h hh').view rfl rfl (s2new n hn) (fun blk cap hs ho=>?_) (fun b hb _=>by rw[hnw]at hb⊢;exact stR b hb);refine⟨fun e=>Nat.le_trans hn0 (ho.1 e),?_⟩
        rcases ho.2 with h|⟨hl9,⟨_,h⟩|⟨_,i,cap',hi,p1,p2,p3,p4⟩|⟨hcn,_⟩⟩
        · exact .inl ⟨Nat.le_trans hn0 h.1,rfl⟩
        · exact h.2
        · rcases m.H i hi p2 with⟨t,ts,_,_,_,hm⟩|hM
          case inr=>exact(hM.blk p4).2.2
          rcases hm with⟨h1,_⟩|⟨blk',cap,cells,el,h1,_,_,_,_,ho,_⟩
          · simp_all
          rw[h1]at p4;cases p4;exact ho.2
        exact .inl ⟨Nat.le_trans hn0 (ho.1 (hnw.trans hcn)),rfl⟩
      obtain⟨hu,_,h0,q1,q2⟩:=old n h hn hh;have key:RelH P n0 β σ2 s2 w' n h0:=by
        rcases m.H n h0 q1 with⟨t,ts,ht,hts,hrl,hm⟩|hM
        case inr=>exact .inr (hM.view rfl rfl (s2old n hn) (fun blk cap hs=>r5 blk (m.ltH q1 hs) (nogiveH n h0 blk cap hu q1 hs)) (fun _ _ _ ho=>ho) x.rep)
        refine .inl ⟨t,ts,ht,hts,hrl,?_⟩
        rcases hm with⟨p1,p2⟩|⟨blk,cap,cells,el,p1,p2,p3,p4,p5,p6,v',p7,p8⟩
        · simp_all
        exact .inr ⟨blk,cap,cells,el,by simp_all,(r5 blk (Er p2) (nogiveH n h0 blk cap hu q1 p1)).trans p2,p3,p4,p5,p6,v',p7,fun i j t' hi hj=>x.rep (p8 i j t' hi hj)⟩
      rcases q2 with rfl|rfl
      · exact key
      trivial
    · rw[gB]at h h';exact m.uB b b' e e' blk h h'
    · by_cases hn:id≤n∧n<id+nh.length<;>by_cases hn':id≤n'∧n'<id+nh.length
      · rw[s2new n hn]at h1;rw[s2new n' hn']at h2;rw[show(s.apply wr).getH n=AN nh n from g1 n hn.1 hn.2]at hh;rw[show(s.apply wr).getH n'=AN nh n' from g1 n' hn'.1 hn'.2]at hh';exact r8.uH n n' h h' blk cap cap' hh hh' h1 h2
      · rw[s2new n hn]at h1;rw[s2old n' hn']at h2;exact((newold n h blk cap hn hh h1).1 n' h' cap' hn' hh' h2).elim
      · rw[s2old n hn]at h1;rw[s2new n' hn']at h2;exact((newold n' h' blk cap' hn' hh' h2).1 n h cap hn hh h1).elim
      rw[s2old n hn]at h1;rw[s2old n' hn']at h2;obtain⟨_,_,h0,q1,_⟩:=old n h hn hh;obtain⟨_,_,h0',q1',_⟩:=old n' h' hn' hh';exact m.uH n n' h0 h0' blk cap cap' q1 q1' h1 h2
    · rw[gB]at hb'
      by_cases hn:id≤i∧i<id+nh.length
      · rw[s2new i hn]at h2;exact(newold i h blk cap hn hi h2).2 b e hb' h1
      rw[s2old i hn]at h2;obtain⟨_,_,h0,q1,_⟩:=old i h hn hi;exact m.uX b e i h0 blk cap hb' q1 h1 h2
    exact RelAV.moved (fun n h1 h2=>⟨s2new n ⟨h1,h2⟩,g1 n h1 h2⟩) stR okc r9
end
section
variable {E:Env} {N:Nat} {P:Program} {n0 n0':Nz} {nt:Nat} {β β':Nat→Option Nat} {σ σ':Nat→Option (Nat×Nat)} {s s':St0 E N} {a:Act} {w w':World}
def GI(s:St0 E N)(done:List Nat):Prop:=∀n tv,s.getT n=some tv→∀g∈tv.gs,g.1∈done
def After(P:Program)(n0:Nz)(nt:Nat)(new:Nat→Prop)(β:Nat→Option Nat)(σ:Nat→Option (Nat×Nat))(s:St0 E N)(a:Act)(w:World)(dst:Option Nat)(wr:Wr (std E N))(a':Act)(w':World):Prop:=
  ∃β' σ',Sim P n0 nt β' σ' (s.apply wr) a' w'∧Ext P n0 new β σ s w β' σ' (s.apply wr) w'∧(∀n,Fresh a s n→¬new n→Fresh a' (s.apply wr) n) ∧
    (∀n e,(s.apply wr).getB n=some e→e.dirty=false→s.getB n=some e)∧(∀n e,(s.apply wr).getH n=some e→e.dirty=false→s.getH n=some e) ∧
    a'.defers=a.defers∧∀n,dst≠some n→a'.tmps.getD n undef=a.tmps.getD n undef
theorem F3{a:Act}{d n:Nat}{v:Value}(h:n≠d):(a.put (some d) v).tmps.getD n undef=a.tmps.getD n undef:=by
 simp only[Act.put];rw[Array.getD_eq_getD_getElem?,Array.getD_eq_getD_getElem?,Array.getElem?_setIfInBounds]
 grind
theorem NL{a:Act}{d:Nat}{v:Value}(h:d<a.tmps.size):(a.put (some d) v).tmps.getD d undef=v:=by
 simp only[Act.put]
 simp_all
theorem HV{a:Act}{d:Nat}{v:Value}{gs:List (Nat×Bool)}(h:∀g∈gs,g.1≠d):Facts (a.put (some d) v) gs↔Facts a gs:=by
 constructor
 ·intro hf n b hm;rw[←hf n b hm,F3 (h _ hm)]
 intro hf n b hm;rw[F3 (h _ hm)];exact hf n b hm
theorem uu{n:Nat}(h:¬n<Fo):s.getT n=none:=by
 unfold State.getT Dh;cases hb:Nat.blt n Fo
 ·rfl
 exact(h (A5.1 hb)).elim
theorem JB(hs:Sim P n0 nt β σ s a w){done:List Nat}(gi:GI s done){d:Nat}(hd:d∉done)(hdn:d<nt){new:Nat→Prop}(hnew:∀n,new n→Fresh a s n)
    {ctx:List (Nat×Bool)} (hctx:∀g∈ctx,g.1∈done) {av:AV (std E N)} {bs:List (Nat×Option (BEnt (std E N)))} {hh:List (Nat×Option (HEnt (std E N)))} {z:Value}
    (m:Mem P n0 β' σ' (s.apply { bs:=bs,hs:=hh }) w') (x:Ext P n0 new β σ s w β' σ' (s.apply { bs:=bs,hs:=hh }) w') (t:Tidy a new s (s.apply { bs:=bs,hs:=hh }))
    (hz:(Facts a ctx∧RelAV P n0 β' σ' (s.apply { bs:=bs,hs:=hh }) w' av z∧∀n,Fresh a s n→¬new n→n∉av.names)∨(¬Facts a ctx∧z=undef)) :
    After P n0 nt new β σ s a w (some d) { ts:=[(d,some ⟨ctx,av⟩)],bs:=bs,hs:=hh } (a.put (some d) z) w':=by
  let wr:Wr (std E N):={ ts:=[(d,some ⟨ctx,av⟩)],bs:=bs,hs:=hh }
  have gT:=fun n=>State.getT_apply1 s d (some ⟨ctx,av⟩) wr rfl n
  have sub:Sub (s.apply { bs:=bs,hs:=hh }) (s.apply wr):=Sub.of_same (fun _=>rfl) (fun _=>rfl);have x2:=(x.trans (sub.ext P n0 (fun _=>False) β' σ' w')).weaken (fun n (h:new n∨False)=>h.elim (fun h=>h) (fun h=>h.elim));have ne:∀{g:Nat×Bool},g.1∈done→g.1≠d:=fun hg e=>hd (e▸hg)
  have hsz:(a.put (some d) z).tmps.size=nt:=by simp[Act.put,hs.size]
  refine⟨β',σ',⟨Nat.le_trans hs.n0le x.size,hsz,fun n tv hn=>?_,sub.mem m,(hs.kept.ext x).ext (sub.ext P n0 (fun _=>False) β' σ' w')⟩,x2,fun n hf hn=>⟨fun k tv hk hg=>?_,fun k e he=>(t.fresh n hf hn).b k e he,fun k e he=>(t.fresh n hf hn).h k e he⟩,t.cleanB,t.cleanH,rfl,fun n hn=>F3 (fun e=>hn (by rw[e]))⟩
  · rw[gT]at hn
    split at hn
    · rename_i he;cases hn;rw[he.1,NL (by rw[hs.size];exact hdn)]
      rcases hz with⟨h1,h2,_⟩|⟨h1,h2⟩
      · exact .inl ⟨(HV (fun g hg=>ne (hctx g hg))).2 h1,(sub.ext P n0 (fun _=>False) β' σ' w').relAV (fun _ _ h=>h) h2⟩
      exact .inr ⟨fun h=>h1 ((HV (fun g hg=>ne (hctx g hg))).1 h),h2⟩
    rename_i he;have hnd:n≠d:=fun e=>by
      by_cases hb:d<Fo
      · omega
      rw[e,uu hb]at hn;cases hn
    rw[F3 hnd];have hg:∀g∈tv.gs,g.1≠d:=fun g hg=>ne (gi n tv hn g hg)
    rcases hs.T n tv hn with⟨h1,h2⟩|⟨h1,h2⟩
    · exact .inl ⟨(HV hg).2 h1,x2.relAV (fun k hk hnw=>(hnew k hnw).t n tv hn h1 hk) h2⟩
    exact .inr ⟨fun h=>h1 ((HV hg).1 h),h2⟩
  rw[gT]at hk
  split at hk
  · rename_i he;cases hk;have hg':=(HV (fun g hg=>ne (hctx g hg))).1 hg
    simp_all
  exact hf.t k tv hk ((HV (fun g hg=>ne (gi k tv hk g hg))).1 hg)
theorem GI.put{done:List Nat}(gi:GI s done){d:Nat}{ctx:List (Nat×Bool)}(hctx:∀g∈ctx,g.1∈done){av:AV (std E N)}{wr:Wr (std E N)}(hw:wr.ts=[(d,some ⟨ctx,av⟩)]):GI (s.apply wr) (d::done):=by
 intro n tv hn g hg;rw[State.getT_apply1 s d _ wr hw]at hn
 split at hn
 ·grind
 exact zzn _ (gi n tv hn g hg)
theorem ZY(hs:Sim P n0 nt β σ s a w){new:Nat→Prop}(hnew:∀n,new n→Fresh a s n){wr:Wr (std E N)}(ht0:wr.ts=[])
    (m:Mem P n0 β' σ' (s.apply wr) w') (x:Ext P n0 new β σ s w β' σ' (s.apply wr) w') (t:Tidy a new s (s.apply wr)):After P n0 nt new β σ s a w none wr a w':=by
  refine⟨β',σ',⟨Nat.le_trans hs.n0le x.size,hs.size,fun n tv hn=>?_,m,hs.kept.ext x⟩,x,t.fresh,t.cleanB,t.cleanH,rfl,fun _ _=>rfl⟩;rw[State.getT_apply0 s wr ht0]at hn
  rcases hs.T n tv hn with⟨h1,h2⟩|⟨h1,h2⟩
  · exact .inl ⟨h1,x.relAV (fun k hk hnw=>(hnew k hnw).t n tv hn h1 hk) h2⟩
  exact .inr ⟨h1,h2⟩
theorem mF(hs:Sim P n0 nt β σ s a w){done:List Nat}(gi:GI s done){ops:Array Oper}{o:Oper}{ctx:List (Nat×Bool)}{k k':Nat}(h:RM.run s (Wf (O:=std E N) ops.toList o) k=.ok (ctx,k'))
    (hg:∀j want d,o.guard=some (j,want)→(ops[j]?).bind (·.dst)=some d→d∈done) :
    (Region.wanted o (yielded ops a.tmps)=true↔Facts a ctx)∧(∀g∈ctx,g.1∈done)∧(o.guard=none→ctx=[]):=by
  unfold Wf at h
  split at h
  · rename_i hn;cases zzc h;exact⟨⟨fun _ n b hm=>by simp at hm,fun _=>by simp[Region.wanted,hn]⟩,fun g hm=>by simp at hm,fun _=>rfl⟩
  rename_i j want hn
  split at h
  · rename_i d hd;obtain⟨k1,h⟩:=zze h;cases ht:s.getT d with
    |none=>rw[ht]at h;trivial
    |some tv=>
      rw[ht]at h;cases zzc h;have hd':(ops[j]?).bind (·.dst)=some d:=by simp_all
      have hdd:=hg j want d hn hd';have hy:yielded ops a.tmps j=some want↔a.tmps.getD d undef=.bool want:=by
        unfold yielded;rw[hd',Option.bind_some,Array.getD_eq_getD_getElem?];cases hx:a.tmps[d]? with
        |none=>simp[undef]
        |some v=>grind
      have hw:Region.wanted o (yielded ops a.tmps)=true↔a.tmps.getD d undef=.bool want:=by
        rw[←hy];simp[Region.wanted,hn]
      refine⟨⟨fun h=>?_,fun hf=>hw.2 (hf d want zzm)⟩,fun g hm=>?_,fun h=>by simp_all⟩
      · have hv:=hw.1 h
        rcases hs.T d tv ht with⟨h1,_⟩|⟨_,h2⟩
        · intro n b hm
          rcases List.mem_cons.1 hm with e|hm
          · simp_all
          exact h1 n b hm
        rw[hv]at h2;trivial
      rcases List.mem_cons.1 hm with rfl|hm
      · exact hdd
      exact gi d tv ht g hm
  trivial
theorem KB:∀{gs:List (Nat×Bool)} {m m':Nat},RM.run s (Yy (O:=std E N) gs) m=.ok (none,m')→gs=[]
 | [],_,_,_=>rfl
 |(n,want)::r,m,m',h=>by
  obtain⟨m1,h⟩:=zze h
  split at h
  ·obtain⟨g,m2,h1,h2⟩:=zza h;have:=zzc h2;cases this
  trivial
theorem gY:∀{fr l:List (Nat×Option (HEnt (std E N)))} {k k':Nat},RM.run s (ik (O:=std E N) fr) k=.ok (l,k')→FrOK s l∧(FrOK s fr→l=fr)
 | [],l,k,k',h=>by cases zzc h;exact⟨fun _ _ hm=>by simp at hm,fun _=>rfl⟩
 |(n,v)::r,l,k,k',h=>by
  obtain⟨k1,h⟩:=zzf h;cases hh:s.getH n with
  |none=>rw[hh]at h;trivial
  |some e=>
   rw[hh]at h;obtain⟨l2,k2,h1,h2⟩:=zza h;cases zzc h2;obtain⟨a1,a2⟩:=gY h1;refine⟨fun q v hm=>?_,fun hf=>?_⟩
   ·rcases List.mem_cons.1 hm with e1|hm
    ·simp_all
    exact a1 q v hm
   obtain⟨h0,q1,q2⟩:=hf n v zzm;rw[hh]at q1;cases q1;rw[a2 (fun q v hm=>hf q v (zzn _ hm)),q2]
end
open Go.RowKit Go
variable {P:Program} {w:World}
theorem qP{em:Bool}{d:Nat}:∀(fl:List Field) (off:Nat) (a:List Int),ON P off fl=true→a.length=off+fl.length →
    (forIn (m:=Sem) fl PUnit.unit (fun f r=>
      if f.name ≠ "_" then do
        let x ←part f.type (a.map (Value.int .i64)).toArray f.offset
        Instr.checkKey em (d+1) f.type x
        pure (ForInStep.yield PUnit.unit)
      else pure (ForInStep.yield PUnit.unit))).run P w=.ok PUnit.unit w
  | [],off,a,_,_=>by simp
  |f::fl,off,a,h,hl=>by
    unfold ON at h
    split at h
    · rename_i h1 h2;simp only[zzk,bne_iff_ne,ne_eq]at h1;obtain⟨ho,hn⟩:=h1;have hp:P.plainKey f.type=true:=by unfold Program.plainKey;rw[h2]
      have ho:=AE.1 ho;have hlt:off<a.length:=by simp_all
      have hx:(a.map (Value.int .i64)).toArray[f.offset]?=some (.int .i64 a[off]):=by
        simp_all
      have p1:=run_part_plain w hp hx;have p2:(Instr.checkKey em (d+1) f.type (.int .i64 a[off])).run P w=.ok () w:=by
        rw[Instr.checkKey];simp[run_underlying h2,Result.andThen]
      have ih:=qP (em:=em) (d:=d) fl (off+1) a h (by grind)
      simp_all
    · cases h
theorem xt{d:Nat}:∀(fl:List Field) (off:Nat) (a b:List Int),ON P off fl=true→a.length=off+fl.length→b.length=off+fl.length →
    (Op.eqFields (d+1) (a.map (Value.int .i64)).toArray (b.map (Value.int .i64)).toArray fl).run P w=.ok (a.drop off==b.drop off) w
  | [],off,a,b,_,ha,hb=>by
    rw[List.drop_of_length_le (by simp_all),List.drop_of_length_le (by simp_all)];rfl
  |f::fl,off,a,b,h,ha,hb=>by
    unfold ON at h
    split at h
    · rename_i h1 h2;simp only[zzk,bne_iff_ne,ne_eq]at h1;obtain⟨ho,hn⟩:=h1;have hp:P.plainKey f.type=true:=by unfold Program.plainKey;rw[h2]
      have ho:=AE.1 ho;have la:off<a.length:=by simp_all
      have lb:off<b.length:=by omega
      have p1:=run_part_plain w hp (xs:=(a.map (Value.int .i64)).toArray) (off:=f.offset) (v:=.int .i64 a[off]) (by simp_all);have p2:=run_part_plain w hp (xs:=(b.map (Value.int .i64)).toArray) (off:=f.offset) (v:=.int .i64 b[off]) (by simp_all);have p3:(Op.equalIn (d+1) f.type (.int .i64 a[off]) (.int .i64 b[off])).run P w=.ok (a[off]==b[off]) w:=by
        rw[Op.equalIn];simp[run_underlying h2,Result.andThen]
      have ih:=xt (d:=d) fl (off+1) a b h (by grind) (by grind);have e:(a.drop off==b.drop off)=(a[off]==b[off]&&a.drop (off+1)==b.drop (off+1)):=by
        rw[List.drop_eq_getElem_cons la,List.drop_eq_getElem_cons lb];rfl
      rw[e];simp only[Op.eqFields,ne_eq,hn,not_false_eq_true,if_true,Sem.run_bind,p1,p2,p3,Result.andThen_ok];cases hc:(a[off]==b[off])
      · rfl
      trivial
    cases h
theorem dX{K:TypeId}{n:Nat}{c:Bool}(h:Vn P K n c=true){a:List Int}(ha:a.length=n)(em:Bool):(Instr.checkKey em 10000 K (Dr c a)).run P w=.ok () w:=by
 unfold Vn at h
 split at h
 ·rename_i fs hu;simp only[zzk,Bool.not_eq_true']at h;obtain⟨⟨⟨h1,h2⟩,h3⟩,h4⟩:=h;subst h4;have h2:=AE.1 h2;have r:=qP (P:=P) (w:=w) (em:=em) (d:=9998) fs.toList 0 a h1 (by omega);rw[show(10000:Nat)=9999+1 from rfl,Instr.checkKey];simp only[Sem.run_bind,run_underlying hu,Result.andThen_ok,Dr,yL]
  simp_all
 ·rename_i hu;rw[zzk]at h;rw[h.1,show(10000:Nat)=9999+1 from rfl,Instr.checkKey];simp[run_underlying hu,Dr,Result.andThen]
 cases h
theorem zi{a b:List Int}(ha:a.length=1)(hb:b.length=1):(a.headD 0==b.headD 0)=(a==b):=by
 match a,ha,b,hb with
 | [x],_,[y],_=>simp_all
theorem AEt{K:TypeId}{n:Nat}{c:Bool}(h:Vn P K n c=true){a b:List Int}(ha:a.length=n)(hb:b.length=n):(Op.equal K (Dr c a) (Dr c b)).run P w=.ok (a==b) w:=by
 unfold Vn at h
 split at h
 ·rename_i fs hu;simp only[zzk,Bool.not_eq_true']at h;obtain⟨⟨⟨h1,h2⟩,h3⟩,h4⟩:=h;subst h4;have h2:=AE.1 h2;have hfo:P.fieldsOf K=fs:=by unfold Program.fieldsOf;rw[hu]
  unfold Op.equal;rw[show Op.maxDepth=9999+1 from rfl];unfold Dr yL;rw[run_equalIn_struct w 9999 K _ _ (by simp_all) h3,hfo,show(9999:Nat)=9998+1 from rfl,xt fs.toList 0 a b h1 (by omega) (by omega)];rfl
 ·rename_i hu;rw[zzk]at h;have h2:=AE.1 h.2;subst h2;rw[h.1];unfold Op.equal;rw[show Op.maxDepth=9999+1 from rfl,Op.equalIn];simp only[Sem.run_bind,run_underlying hu,Dr,Result.andThen_ok,if_true,Sem.run_pure,zi ha hb]
 cases h
theorem vC(m:Nat)(u:Nat→Value):∀(i:Nat) (L:Rows) (j:Nat),j<L.length→(C7 m u i L)[j]?=some (ent m (u (i+j)) (i+j) (AB L j))
 |_,[],j,h=>absurd h (Nat.not_lt_zero j)
 |i,r::L,0,h=>rfl
 |i,r::L,j+1,h=>by
  have:=vC m u (i+1) L j (Nat.lt_of_succ_lt_succ h);rw[show i+(j+1)=i+1+j by omega];exact this
theorem Lp(n:Nat)(k:List Int):∀L:Rows,AX n k L≤L.length
 | []=>Nat.le_refl _
 |r::L=>by
  unfold AX;have:=Lp n k L
  grind
theorem Uv(n:Nat)(k:List Int):∀L:Rows,AX n k L<L.length→DM n (AB L (AX n k L))=k
 | [],h=>absurd h (Nat.not_lt_zero _)
 |r::L,h=>by
  unfold AX at h⊢;cases hk:k==DM n r
  ·rw[hk]at h;exact Uv n k L (Nat.lt_of_succ_lt_succ h)
  exact(beq_iff_eq.1 hk).symm
theorem lB{n:Nat}{r:List PV}(h:n≤r.length):(DM n r).length=n:=by
 unfold DM
 simp_all
variable {K:TypeId} {m:Nat} {u:Nat→Value}
theorem kq(h:Vn P K (m%16) (m.testBit 4)=true){k:List Int}(hk:k.length=m%16):∀(L:Rows) (i j:Nat),(∀r∈L,m%16≤r.length) →
    (Instr.findAsking K (Dr (m.testBit 4) k) (C7 m u i L) j).run P w=.ok (if AX (m%16) k L<L.length then some (j+AX (m%16) k L,u (i+AX (m%16) k L))else none) w
  | [],i,j,_=>by rfl
  |r::L,i,j,hr=>by
    have e:=AEt (P:=P) (w:=w) h hk (lB (hr r zzm));have ih:=kq h hk L (i+1) (j+1) (fun x hx=>hr x (zzn _ hx));unfold C7 Instr.findAsking;unfold AX;simp only[Sem.run_bind,ent,e,Result.andThen_ok];cases hc:k==DM (m%16) r
    · grind
    simp
theorem tx(hn:m%16=1)(hc:m.testBit 4=true){k:List Int}(hk:k.length=1):∀(L:Rows) (i j:Nat),(∀r∈L,1≤r.length) →
    Instr.findNow (.int .i64) (Dr true k) (C7 m u i L) j=some (if AX 1 k L<L.length then some (j+AX 1 k L,u (i+AX 1 k L))else none)
  | [],i,j,_=>by rfl
  |r::L,i,j,hr=>by
    have e:=zi hk (lB (hr r zzm));have ih:=tx hn hc hk L (i+1) (j+1) (fun x hx=>hr x (zzn _ hx));have es:Instr.sameNow (.int .i64) (Dr true k) (ent m (u i) i r).key=some (k==DM 1 r):=by
      rw[←e];unfold ent;rw[hn,hc];rfl
    unfold C7 Instr.findNow;unfold AX;rw[es];cases hc:k==DM 1 r
    · grind
    simp[ent]
theorem jW(h:Vn P K (m%16) (m.testBit 4)=true){k:List Int}(hk:k.length=m%16)(L:Rows)(hr:∀r∈L,m%16≤r.length) :
    (Instr.findKey K (Dr (m.testBit 4) k) (C7 m u 0 L)).run P w=.ok (if AX (m%16) k L<L.length then some (AX (m%16) k L,u (AX (m%16) k L))else none) w:=by
  have ra:=kq (P:=P) (w:=w) (u:=u) h hk L 0 0 hr;simp only[Nat.zero_add]at ra;unfold Vn at h
  split at h
  · rename_i fs hu;simp only[zzk,Bool.not_eq_true']at h;rw[h.2]at ra⊢;unfold Instr.findKey;simp only[Sem.run_bind,run_underlying hu,Result.andThen_ok];cases L with
    |nil=>rfl
    |cons r L=>
      trivial
  · rename_i hu;rw[zzk]at h;have hn:=AE.1 h.2;have f:=tx (u:=u) hn h.1 (hk.trans hn) L 0 0 (by simp_all);rw[h.1,hn];unfold Instr.findKey;simp only[Sem.run_bind,run_underlying hu,Result.andThen_ok,f,Sem.run_pure,Nat.zero_add]
  cases h
theorem aB{u':Nat→Value}:∀(i:Nat) (L:Rows),(∀j,j<L.length→u (i+j)=u' (i+j))→C7 m u i L=C7 m u' i L
 |_,[],_=>rfl
 |i,r::L,h=>by
  show ent m (u i) i r::C7 m u (i+1) L=ent m (u' i) i r::C7 m u' (i+1) L;rw[show u i=u' i from h 0 (Nat.succ_pos _),aB (u':=u') (i+1) L (fun j hj=>by
   have:=h (j+1) (Nat.succ_lt_succ hj)
   grind)]
theorem pY:∀(i:Nat) (L:Rows) (r:List PV),C7 m u i (L++[r])=C7 m u i L++[ent m (u (i+L.length)) (i+L.length) r]
 |i,[],r=>rfl
 |i,x::L,r=>by
  show ent m (u i) i x::C7 m u (i+1) (L++[r])=ent m (u i) i x::(C7 m u (i+1) L++[ent m (u (i+(L.length+1))) (i+(L.length+1)) r]);rw[pY (i+1) L r,show i+1+L.length=i+(L.length+1) by omega]
def LV(u:Nat→Value)(j:Nat)(v:Value):Nat→Value:=fun i=>if i=j then v else u i
theorem Yw(u:Nat→Value)(j:Nat)(v:Value):LV u j v j=v:=if_pos rfl
theorem Ud(u:Nat→Value){i j:Nat}(v:Value)(h:i≠j):LV u j v i=u i:=if_neg h
theorem vJ(f:MapEntry→MapEntry)(v:Value)(r':List PV):∀(i:Nat) (L:Rows) (j:Nat),f (ent m (u (i+j)) (i+j) (AB L j))=ent m v (i+j) r'→(C7 m u i L).modify j f=C7 m (LV u (i+j) v) i (L.set j r')
 |i,[],j,_=>by simp[C7]
 |i,x::L,0,h=>by
  show f (ent m (u i) i x)::C7 m u (i+1) L=ent m (LV u i v i) i r'::C7 m (LV u i v) (i+1) L;rw[show f (ent m (u i) i x)=ent m v i r' from h,Yw,aB (u':=LV u i v) (i+1) L (fun j _=>(Ud u v (by omega)).symm)]
 |i,x::L,j+1,h=>by
  have ih:=vJ f v r' (i+1) L j (by
   rw[show i+1+j=i+(j+1) by omega];exact h)
  show ent m (u i) i x::(C7 m u (i+1) L).modify j f=ent m (LV u (i+(j+1)) v i) i x::C7 m (LV u (i+(j+1)) v) (i+1) (L.set j r');rw[ih,Ud u v (by omega),show i+1+j=i+(j+1) by omega]
theorem aU(n:Nat)(v:PV)(r:List PV):DM n (Jd n v r)=DM n r:=by
 show((r.set n v).take n).map pvI=(r.take n).map pvI;rw[List.take_set_of_le (Nat.le_refl n)]
theorem jC{n:Nat}{v:PV}{r:List PV}(h:n<r.length):AA (Jd n v r) n=v:=by
 show(r.set n v).getD n (.int 0)=v
 simp_all
theorem uZ(n:Nat)(v:PV)(r:List PV):(Jd n v r).length=r.length:=List.length_set
theorem Z9{n:Nat}{k:List Int}{v:PV}(hk:k.length=n):DM n (Vq k v)=k:=by
 unfold DM Vq;rw[List.take_append_of_le_length (by simp_all),List.take_of_length_le (by simp_all),List.map_map]
 conv=>rhs;rw[←List.map_id k]
 rfl
theorem ic{n:Nat}{k:List Int}{v:PV}(hk:k.length=n):AA (Vq k v) n=v:=by
 unfold Vq AA
 simp_all
theorem vd{i:Nat}{k:List Int}{v:PV}{x:Value}(hk:k.length=m%16):ent m x i (Vq k v)={ key:=Dr (m.testBit 4) k,val:=x,born:=i }:=by
 unfold ent;rw[Z9 hk]
theorem Y3{n:Nat}{k:List Int}{L:Rows}(h:¬AX n k L<L.length):Mi n k L=.int 0:=by
 unfold Mi AD AB;rw[zzl,List.getElem?_eq_none (by omega)];rfl
theorem qv(c:Bool)(a:List Int):Instr.sameBits 10000 (Dr c a) (Dr c a)=true:=by
 cases c
 ·show((a.map (Value.int .i64)).toArray.size==(a.map (Value.int .i64)).toArray.size&&((a.map (Value.int .i64)).toArray.toList.zip (a.map (Value.int .i64)).toArray.toList).all fun(x,y)=>Instr.sameBits 9999 x y)=true;rw[beq_self_eq_true,Bool.true_and];simp only[List.all_eq_true];intro p hp;obtain⟨x,y⟩:=p;have hz:x=y:=by
   grind
  subst hz;have hx:=(List.of_mem_zip hp).1;obtain⟨i,_,rfl⟩:=List.mem_map.1 (by omega);simp[Instr.sameBits]
 simp[Dr,Instr.sameBits]
theorem qZ(c:Bool)(a:List Int):(Instr.keyThatStays (Dr c a) (Dr c a)).run P w=.ok (Dr c a) w:=by
 unfold Instr.keyThatStays;rw[qv];rfl
def bA(m:Nat):Value:=match m.testBit 5 with
 |false=>.int .i64 0
 |true=>.pointer none
theorem OG{T:TypeId}(h:Mc P T m=true):∃K V,P.underlying T=some (.map K V)∧Vn P K (m%16) (m.testBit 4)=true∧ValT P m V∧∀w,(zeroValue V).run P w=.ok (bA m) w:=by
 unfold Mc at h
 split at h
 ·rename_i K V hu;rw[zzk]at h;refine⟨K,V,hu,h.1,?_⟩;have h2:=h.2;unfold AFE at h2;unfold ValT bA;cases hb:m.testBit 5
  ·simp only[hb,zzk]at h2⊢;refine⟨?_,fun w=>?_⟩
   ·have h3:=h2.1
    split at h3
    ·rename_i hv;simp[AL,hv]
    cases h3
   have h3:=h2.2
   split at h3
   ·rename_i i hi
    split at h3
    ·rename_i z hz;have:=beq_iff_eq.1 h3;subst this;unfold zeroValue;simp only[Sem.run_bind,run_typeInfo w hi,Result.andThen_ok,hz,Sem.run_pure]
    cases h3
   cases h3
  simp only[hb,zzk]at h2⊢;refine⟨?_,fun w=>?_⟩
  ·have h3:=h2.1
   split at h3
   ·simp_all
   cases h3
  have h3:=h2.2
  split at h3
  ·rename_i i hi
   split at h3
   ·rename_i hz;unfold zeroValue;simp only[Sem.run_bind,run_typeInfo w hi,Result.andThen_ok,hz,Sem.run_pure]
   cases h3
  cases h3
 cases h
section
variable {T:TypeId} {r:Nat} {k:List Int} {L:Rows}
def World.withMap(w:World)(m r:Nat)(u:Nat→Value)(L:Rows):World:={ w with heap:=w.heap.setIfInBounds r (.map (C7 m u 0 L).toArray L.length) }
theorem zC{m0:Nat}{u0:Nat→Value}{L0:Rows}(hb:Pf w m0 r u0 L0):Pf (World.withMap w m r u L) m r u L:=(MapKept.heap_set hb).1
theorem mM(h:Mc P T m=true)(hk:k.length=m%16)(hr:∀x∈L,x.length=m%16+1)
    (hb:Pf w m r u L):(Instr.lookup T (.map (some r)) (Dr (m.testBit 4) k) false).run P w=.ok (if AX (m%16) k L<L.length then u (AX (m%16) k L)else bA m) w:=by
  obtain⟨K,V,hT,hK,hV,hz⟩:=OG h;have f:=jW (P:=P) (w:=w) (u:=u) hK hk L (fun x hx=>by simp_all);unfold Instr.lookup;simp only[Sem.run_bind,run_underlying hT,MapKept.run_getObj_map hb,dX (P:=P) (w:=w) hK hk,f,Result.andThen_ok,Sem.run_pure]
  by_cases hm:AX (m%16) k L<L.length
  · simp_all
  rw[if_neg hm];simp[hz,hm,Result.andThen]
theorem o7{j:Nat}(hj:j<L.length):(C7 m u 0 L).toArray[j]?=some (ent m (u j) j (AB L j)):=by
 rw[List.getElem?_toArray,vC m u 0 L j hj,Nat.zero_add]
theorem uN{j:Nat}{f:MapEntry→MapEntry}{v:Value}{r':List PV}(h:f (ent m (u j) j (AB L j))=ent m v j r'):(C7 m u 0 L).toArray.modify j f=(C7 m (LV u j v) 0 (L.set j r')).toArray:=by
 apply Array.ext';rw[Array.toList_modify];have:=vJ (u:=u) f v r' 0 L j (by rw[Nat.zero_add];exact h)
 simp_all
theorem xp{v:Value}{r':List PV}{x:MapEntry}(h:x=ent m v L.length r'):(C7 m u 0 L).toArray.push x=(C7 m (LV u L.length v) 0 (L++[r'])).toArray:=by
 rw[pY,Nat.zero_add,Yw,h,aB (u:=LV u L.length v) (u':=u) 0 L (fun j hj=>Ud u v (by omega))];simp
theorem mn(h:Mc P T m=true)(hk:k.length=m%16)(hr:∀x∈L,x.length=m%16+1)(v:Value)(p:PV)
    (hb:Pf w m r u L):(Instr.mapUpdate T (.map (some r)) (Dr (m.testBit 4) k) v).run P w=.ok () (World.withMap w m r (LV u (AX (m%16) k L) v) (DL (m%16) k p L)):=by
  obtain⟨K,V,hT,hK,hV,hz⟩:=OG h;have f:=jW (P:=P) (w:=w) (u:=u) hK hk L (fun x hx=>by simp_all);have ml:=Lp (m%16) k L;unfold Instr.mapUpdate;simp only[Sem.run_bind,run_underlying hT,MapKept.run_getObj_map hb,dX (P:=P) (w:=w) hK hk,f,Result.andThen_ok,Sem.run_pure];unfold World.withMap DL
  by_cases hm:AX (m%16) k L<L.length
  · have hky:=Uv (m%16) k L hm;have e2:Nat.blt (AX (m%16) k L) L.length=true:=Nat.ble_eq_true_of_le hm;have e1:((Option.map (fun x:MapEntry=>x.key) (C7 m u 0 L).toArray[AX (m%16) k L]?).getD (Dr (m.testBit 4) k))=Dr (m.testBit 4) k:=by
      rw[o7 hm];show Dr _ (DM (m%16) (AB L (AX (m%16) k L)))=_;rw[hky]
    rw[if_pos hm,e2,cond_true];simp only[Sem.run_bind,e1,qZ,Result.andThen_ok,MapKept.run_setObj_map _ hb];congr 2;rw[uN (v:=v) (r':=Jd (m%16) p (AB L (AX (m%16) k L)))]
    · simp_all
    unfold ent;rw[aU,hky]
  have e2:Nat.blt (AX (m%16) k L) L.length=false:=Bool.eq_false_iff.2 fun hc=>hm (Nat.le_of_ble_eq_true hc)
  have e4:AX (m%16) k L=L.length:=by omega
  rw[if_neg hm,e2,cond_false,e4];simp only[MapKept.run_setObj_map _ hb];congr 2;rw[List.length_append,List.length_singleton,xp (vd hk).symm]
theorem nT(h:Mc P T m=true)(hk:k.length=m%16)(hr:∀x∈L,x.length=m%16+1)(p:PV)
    (hb:Pf w m r u L):(Instr.mapEntry T (.map (some r)) (Dr (m.testBit 4) k)).run P w=.ok (.tuple #[if AX (m%16) k L<L.length then u (AX (m%16) k L)else bA m,.int .i64 (AX (m%16) k L:Nat)]) (World.withMap w m r (LV u (AX (m%16) k L) (if AX (m%16) k L<L.length then u (AX (m%16) k L)else bA m)) (DL (m%16) k p L)):=by
  obtain⟨K,V,hT,hK,hV,hz⟩:=OG h;have f:=jW (P:=P) (w:=w) (u:=u) hK hk L (fun x hx=>by simp_all);have ml:=Lp (m%16) k L;unfold Instr.mapEntry;simp only[Sem.run_bind,run_underlying hT,MapKept.run_getObj_map hb,dX (P:=P) (w:=w) hK hk,f,Result.andThen_ok,Sem.run_pure];unfold World.withMap DL
  by_cases hm:AX (m%16) k L<L.length
  · have hky:=Uv (m%16) k L hm;have e2:Nat.blt (AX (m%16) k L) L.length=true:=Nat.ble_eq_true_of_le hm;have e1:((Option.map (fun x:MapEntry=>x.key) (C7 m u 0 L).toArray[AX (m%16) k L]?).getD (Dr (m.testBit 4) k))=Dr (m.testBit 4) k:=by
      rw[o7 hm];show Dr _ (DM (m%16) (AB L (AX (m%16) k L)))=_;rw[hky]
    have e3:((Option.map (fun x:MapEntry=>(x.born:Int)) (C7 m u 0 L).toArray[AX (m%16) k L]?).getD 0)=(AX (m%16) k L:Int):=by
      rw[o7 hm];rfl
    rw[if_pos hm,if_pos hm,e2,cond_true];simp only[Sem.run_bind,e1,e3,qZ,Result.andThen_ok,MapKept.run_setObj_map _ hb,Sem.run_pure];rw[uN (v:=u (AX (m%16) k L)) (r':=Jd (m%16) p (AB L (AX (m%16) k L)))]
    · rw[List.length_set];rfl
    unfold ent;rw[aU,hky]
  have e2:Nat.blt (AX (m%16) k L) L.length=false:=Bool.eq_false_iff.2 fun hc=>hm (Nat.le_of_ble_eq_true hc)
  have e4:AX (m%16) k L=L.length:=by omega
  rw[if_neg hm,if_neg hm,e2,cond_false,e4];simp only[Sem.run_bind,hz,Result.andThen_ok,MapKept.run_setObj_map _ hb,Sem.run_pure];rw[List.length_append,List.length_singleton,xp (vd (v:=p) hk).symm];rfl
theorem pu:∀(i:Nat) (L:Rows) (j:Nat),j<L.length→(C7 m u i L).findIdx? (fun e=>(e.born:Int)==((i+j:Nat):Int))=some j
 |_,[],j,h=>absurd h (Nat.not_lt_zero j)
 |i,x::L,0,_=>by
  show List.findIdx? _ (ent m (u i) i x::C7 m u (i+1) L)=some 0;rw[List.findIdx?_cons];simp[ent]
 |i,x::L,j+1,h=>by
  have ih:=pu (i+1) L j (Nat.lt_of_succ_lt_succ h);show List.findIdx? _ (ent m (u i) i x::C7 m u (i+1) L)=some (j+1);rw[List.findIdx?_cons];have hne:(((ent m (u i) i x).born:Int)==((i+(j+1):Nat):Int))=false:=beq_eq_false_iff_ne.2 (by
   show(i:Int)≠_;omega)
  grind
theorem oM{j:Nat}(hj:j<L.length)(v:Value)(p:PV)
    (hb:Pf w m r u L):(Instr.entryStore T (.map (some r)) (.int .i64 (j:Nat)) v).run P w=.ok () (World.withMap w m r (LV u j v) (L.set j (Jd (m%16) p (AB L j)))):=by
  have fb:=pu (m:=m) (u:=u) 0 L j hj;rw[Nat.zero_add]at fb;have fa:(C7 m u 0 L).toArray.findIdx? (fun e=>(e.born:Int)==(j:Int))=some j:=by
    simp_all
  unfold Instr.entryStore;simp only[Sem.run_bind,MapKept.run_getObj_map hb,Result.andThen_ok,asInt,asIntOf,Sem.run_pure,fa,MapKept.run_setObj_map _ hb];unfold World.withMap;rw[uN (v:=v) (r':=Jd (m%16) p (AB L j))]
  · simp_all
  unfold ent;rw[aU]
end
end Go.Px
end
section
namespace Go.Px
theorem Zn(n:Nat)(k:List Int)(v:PV):∀(L:Rows) (j:Nat),AX n k (L.set j (Jd n v (AB L j)))=AX n k L
 | [],j=>rfl
 |r::L,0=>by
  show cond (k==DM n (Jd n v r)) 0 (AX n k L+1)=_;rw[aU];rfl
 |r::L,j+1=>by
  show cond (k==DM n r) 0 (AX n k (L.set j (Jd n v (AB L j)))+1)=_;rw[Zn n k v L j];rfl
theorem Uu(n:Nat)(k:List Int)(r:List PV):∀L:Rows,AX n k (L++[r])=(if AX n k L<L.length then AX n k L else L.length+(cond (k==DM n r) 0 1))
 | []=>by
  show cond (k==DM n r) 0 (0+1)=if(0:Nat)<0 then _ else _
  simp_all
 |x::L=>by
  have ih:=Uu n k r L;show cond (k==DM n x) 0 (AX n k (L++[r])+1)=if cond (k==DM n x) 0 (AX n k L+1)<L.length+1 then cond (k==DM n x) 0 (AX n k L+1)else L.length+1+_
  grind
def Xe(n:Nat)(L:Rows):Prop:=∀x∈L,x.length=n+1
theorem XR{n:Nat}{k:List Int}{v:PV}{L:Rows}(hk:k.length=n)(h:Xe n L):Xe n (DL n k v L):=by
 unfold DL;cases hb:Nat.blt (AX n k L) L.length
 ·intro x hx;rw[cond_false]at hx
  rcases List.mem_append.1 hx with hx|hx
  ·exact h x hx
  rw[List.mem_singleton.1 hx];unfold Vq
  simp_all
 have hm:AX n k L<L.length:=Nat.le_of_ble_eq_true hb;intro x hx;rw[cond_true]at hx
 rcases List.mem_or_eq_of_mem_set hx with hx|rfl
 ·exact h x hx
 rw[uZ];refine h _ ?_;unfold AB
 simp_all
theorem cn{n:Nat}{k:List Int}{v:PV}{L:Rows}(hk:k.length=n)(h:Xe n L):Mi n k (DL n k v L)=v:=by
 unfold DL;cases hb:Nat.blt (AX n k L) L.length
 ·have hm:¬AX n k L<L.length:=fun hc=>by
   have:=Nat.ble_eq_true_of_le hc;unfold Nat.blt at hb
   simp_all
  rw[cond_false];unfold Mi;rw[Uu,if_neg hm,Z9 hk,beq_self_eq_true,cond_true,Nat.add_zero];have e:AB (L++[Vq k v]) L.length=Vq k v:=by
   unfold AB
   simp_all
  unfold AD;rw[e,ic hk]
 have hm:AX n k L<L.length:=Nat.le_of_ble_eq_true hb;rw[cond_true];unfold Mi;rw[Zn];have hl:(AB L (AX n k L)).length=n+1:=by
  refine h _ ?_;unfold AB
  simp_all
 have e:AB (L.set (AX n k L) (Jd n v (AB L (AX n k L)))) (AX n k L)=Jd n v (AB L (AX n k L)):=by
  show(L.set _ _).getD _ _=_
  simp_all
 unfold AD;rw[e,jC (by omega)]
theorem Zm{n:Nat}{k k':List Int}{v:PV}{L:Rows}(hk:k.length=n)(h:Xe n L)(hne:(k'==k)=false):Mi n k' (DL n k v L)=Mi n k' L:=by
 unfold DL;cases hb:Nat.blt (AX n k L) L.length
 ·rw[cond_false];have ml:=Lp n k' L;unfold Mi;rw[Uu]
  by_cases hq:AX n k' L<L.length
  ·rw[if_pos hq];unfold AD AB
   grind
  rw[if_neg hq,Z9 hk,hne,cond_false];unfold AD AB
  simp_all
 have hm:AX n k L<L.length:=Nat.le_of_ble_eq_true hb;rw[cond_true];unfold Mi;rw[Zn]
 by_cases hq:AX n k' L=AX n k L
 ·have h1:=Uv n k' L (by omega);have h2:=Uv n k L hm
  simp_all
 unfold AD AB
 grind
section
variable {E:Env} {N:Nat} {P:Program} {n0:Nz} {nt:Nat} {β:Nat→Option Nat} {σ:Nat→Option (Nat×Nat)} {s s':St0 E N} {a:Act} {w w':World}
theorem ed(m:Mem P n0 β σ s w){id:Nat}{en h:HEnt (std E N)}(hh:s.getH id=some en)(hfz:en.frozen=false){wr:Wr (std E N)}(ht0:wr.ts=[])(hb:wr.bs=[])
    (hws:wr.hs=[(id,some h)]) (hd:h.dirty=true) (hz:h.frozen=false) (hle:h.e=en.e) (hll:(∃t,AL P t=.sl en.e)→h.l.length=en.l.length) (ho:w'.os=w.os) (htp:w'.tape=w.tape) (hout:w'.output=w.output)
    (hsize:w'.heap.size=w.heap.size) (hother:∀b,(∀cap,σ id≠some (b,cap))→w'.heap[b]?=w.heap[b]?)
    (hrel:Ext P n0 (fun _=>False) β σ s w β σ (s.apply wr) w'→RelH P n0 β σ (s.apply wr) w' id h) :
    Mem P n0 β σ (s.apply wr) w'∧Ext P n0 (fun _=>False) β σ s w β σ (s.apply wr) w'∧Tidy a (fun _=>False) s (s.apply wr):=by
  have gB:=fun n=>State.getB_apply0 s wr hb n
  have gs:∀n,(s.apply wr).getH n=if n=id then some h else s.getH n:=fun n=>by
    unfold State.apply State.getH;simp only[hws,BR];exact BW _ _ _ _
  have hget:(s.apply wr).getH id=some h:=by simp_all
  have fget:∀n h',n≠id→(s.apply wr).getH n=some h'→s.getH n=some h':=fun n h' hn he=>by simp_all
  have hin:∀blk cap,σ id=some (blk,cap)→InM β σ s blk:=fun blk cap hs=>.inr ⟨id,en,cap,hh,hfz,hs⟩
  have hoth:∀b,¬InM β σ s b→w'.heap[b]?=w.heap[b]?:=fun b hm=>hother b (fun cap hs=>hm (hin b cap hs))
  have x:Ext P n0 (fun _=>False) β σ s w β σ (s.apply wr) w':=by
    refine⟨ho,htp,hout,by omega,fun b hb hm=>.inl (hoth b hm),fun b hb=>.inl ?_,fun b e he hn=>?_,fun n e he hn=>?_⟩
    · rcases hb with⟨n,e,he,hb⟩|⟨n,e,cap',he,hfz',hb⟩
      · rw[gB]at he;exact .inl ⟨n,e,he,hb⟩
      by_cases hid:n=id
      · simp_all
      exact .inr ⟨n,e,cap',fget n e hid he,hfz',hb⟩
    · simp_all
    grind
  refine⟨UW (id:=id) m x (fun n e he=>?_) (fun n e blk' he hb=>?_) (fun n h' hn he=>?_) (fun n h' blk' cap' hn he hs=>?_) (fun h' he=>?_) (fun blk' cap' hs=>?_),x,⟨fun n hfn _=>?_,fun n e he hd'=>?_,fun n e he hd'=>?_⟩⟩
  · simp_all
  · rw[gB]at he;exact hother blk' (fun cap hs=>m.uX n e id en blk' cap he hh hb hs)
  · simp_all
  · exact hother blk' (fun cap hs2=>hn (m.uH n id h' en blk' cap' cap (fget n h' hn he) hh hs hs2))
  · simp_all
  · refine⟨fun n e he hb=>?_,fun n h' cap'' hn he hs2=>?_⟩
    · rw[gB]at he;exact m.uX n e id en blk' cap' he hh hb hs
    exact hn (m.uH n id h' en blk' cap'' cap' (fget n h' hn he) hh hs2 hs)
  · refine⟨fun q tv hq=>?_,fun q e he=>?_,fun q e he=>?_⟩
    · rw[State.getT_apply0 s wr ht0]at hq;exact hfn.t q tv hq
    · rw[gB]at he;exact hfn.b q e he
    by_cases hq:q=id
    · rw[hq];exact hfn.h id en hh
    exact hfn.h q e (fget q e hq he)
  · simp_all
  grind
theorem Tidy.of_sub{fr:List (Nat×Option (HEnt (std E N)))}(h:PreOK s fr){wr:Wr (std E N)}(hw:wr.hs=fr)(hb:wr.bs=[])(ht:wr.ts=[])(new:Nat→Prop):Tidy a new s (s.apply wr) where
 fresh n hf _:=⟨fun k tv hk=>by rw[State.getT_apply0 s wr ht]at hk;exact hf.t k tv hk,fun k e he=>by rw[State.getB_apply0 s wr hb]at he;exact hf.b k e he,fun k e he=>by
  obtain⟨h0,q1,_⟩:=h.get hw k e he;exact hf.h k h0 q1⟩
 cleanB n e he hd:=by rw[State.getB_apply0 s wr hb]at he;exact he
 cleanH n e he hd:=by
  obtain⟨h0,q1,q2⟩:=h.get hw n e he
  grind
theorem Tidy.weaken{new new':Nat→Prop}(t:Tidy a new s s')(h:∀n,new n→new' n):Tidy a new' s s':=
 ⟨fun n hf hn=>t.fresh n hf (fun k=>hn (h n k)),t.cleanB,t.cleanH⟩
end
section
variable {E:Env} {N:Nat} {P:Program} {n0:Nz} {nt:Nat} {β:Nat→Option Nat} {σ:Nat→Option (Nat×Nat)} {s s':St0 E N} {a:Act} {w w':World}
theorem ABb{e e':TypeId}(h:Eh P e=true)(h':Eh P e'=true):e=e':=by
 unfold Eh at h h'
 simp_all
theorem Mem.tch(m:Mem P n0 β σ s w)(ho:w'.os=w.os)(htp:w'.tape=w.tape)(hout:w'.output=w.output)(hsz:w'.heap.size=w.heap.size)
    (hb:∀b,w'.heap[b]?=w.heap[b]?∨(¬InM β σ s b∧TCh P n0.n w w' b)):Mem P n0 β σ s w'∧Ext P n0 (fun _=>False) β σ s w β σ s w':=by
  have x:Ext P n0 (fun _=>False) β σ s w β σ s w':=⟨ho,htp,hout,by omega,fun b _ _=>(hb b).imp id And.right,fun _ h=>.inl h,fun b e h _=>⟨⟨e,h⟩,rfl⟩,fun id h hh _=>⟨h,hh,rfl,rfl,fun _=>rfl⟩⟩;refine⟨⟨fun n e he=>?_,fun n h hh=>?_,m.uB,m.uH,m.uX⟩,x⟩
  · obtain⟨blk,cells,el,h1,h2,h3,h4⟩:=m.B n e he;exact⟨blk,cells,el,h1,((hb blk).elim id (fun h=>(h.1 (.inl ⟨n,e,he,h1⟩)).elim)).trans h2,x.relCs (fun _ _=>id) h3,h4⟩
  rcases m.H n h hh with⟨t,ts,ht,hts,hrl,hm⟩|hM
  · refine .inl ⟨t,ts,ht,hts,hrl,?_⟩
    rcases hm with hm|⟨blk,cap,cells,el,ha,hheap,hel,hc,hd,hnw,v,hv,hrep⟩
    · grind
    exact .inr ⟨blk,cap,cells,el,ha,((hb blk).elim id (fun h=>(h.2.not hheap (hel▸qH ht)).elim)).trans hheap,hel,hc,hd,hnw,v,hv,fun i j t' hi hj=>x.rep (hrep i j t' hi hj)⟩
  refine .inr (hM.view rfl rfl rfl (fun blk cap hs=>?_) (fun _ _ _ ho=>ho) x.rep)
  rcases hb blk with h|⟨_,_,c,c',e,h1,_⟩
  · exact h
  obtain⟨n',r,u,_,_,a4,a5,_⟩:=hM;rw[hs]at a4;cases a4;unfold Pf at a5
  simp_all
theorem AB0{z:Array Value}(hz:∀u∈z.toList,u.oneCell'=true)(h1:z.size=1)(n:Nat):∀v∈(Builtin.zeroCells z n).toList,v.oneCell'=true:=fun v hv=>by
 unfold Builtin.zeroCells at hv
 grind
theorem sj{n:Int}{b:Nat}(h:iSm n b=true):0≤n∧n≤17592186044416∧n*b≤17592186044416:=by
 have:=of_decide_eq_true h;omega
theorem ABV(hs:Sim P n0 nt β σ s a w){T ty e:TypeId}{ti:TypeInfo}(he:iu P T=some e)(hi:P.info? e=some ti){zz:Val (std E N)}(hz:JK (O:=std E N) P e=some zz)(hz1:zz.cs.length=1){vx vy:Value}{n:Int}{q mm:Nat}{en:BEnt (std E N)}
    (hx:RelC P n0 β σ s w (.opq true n) vx) (hy:RelC P n0 β σ s w (.qlit q mm) vy) (hq:s.getB q=some en) (hm:mm≤en.cs.length) (hm0:0<mm) (hm1:mm≤100000)
    (h1:iSm n 1=true) (h2:iSm (IntKind.i64.wrap (n+(mm:Int))) ti.bytes=true) :
    ∃z w',(Builtin.append_ #[T,T] ty #[vx,vy]).run P w=.ok z w'∧Mem P n0 β σ s w'∧Ext P n0 (fun _=>False) β σ s w β σ s w'∧Rep P w' (StB n0 β σ s true) T z (.int (IntKind.i64.wrap (n+(mm:Int)))):=by
  obtain⟨hu,hlk,hop,hce,ts,hts⟩:=dK he;obtain⟨ti',zv,hi',hiz,hzv,hrz,hnz,hoz⟩:=HQ (n0:=n0) (β:=β) (σ:=σ) (s:=s) (w:=w) hz;rw[hi]at hi';cases hi';have htz:ti.size=1:=by rw[←hce];simp[Program.cellsOf,hi]
  obtain⟨b1,b2,_⟩:=sj h1;have hw:IntKind.i64.wrap (n+(mm:Int))=n+(mm:Int):=by
    unfold IntKind.wrap;simp[IntKind.signed,IntKind.bits];omega
  rw[hw]at h2⊢;obtain⟨_,c2,c3⟩:=sj h2;obtain⟨t,ht,hrep⟩:=hx;cases hrep with
  |int h=>simp_all
  | @opq _ ax len cap h hc hk=>
    obtain⟨blkq,rfl,blk2,hv,hβ⟩:=hy;cases hv;obtain⟨blk',cells,el,q1,q2,q3,_⟩:=hs.M.B q en hq;rw[hβ en hq]at q1;cases q1;have hcl:mm≤cells.size:=by have:=RelCs.length q3;simp_all
    have hnl:(cells.toList.take mm).length=mm*ti.size:=by simp_all
    have hnews:∀j u,(cells.toList.take mm)[j]?=some u→w.cell? ((⟨blkq,0,none⟩:Addr).add j)=some u:=fun j u hj=>by
      rw[FP,EA q2]
      grind
    have hone:∀u∈cells.toList.take mm,u.oneCell'=true:=fun u hu=>RelCs.one q3 u (List.mem_of_mem_take hu)
    have hdat:((len:Int)+(mm:Int))=((len+mm:Nat):Int):=by omega
    rw[hdat];have known:cap=0∨∃b cellsx,ax=some ⟨b,0,none⟩∧n0.n≤b∧¬InM β σ s b∧Old n0 true ⟨b,true⟩∧w.heap[b]?=some (.cells cellsx e (0,0))∧cap≤cellsx.size∧∀v∈cellsx.toList,v.oneCell'=true:=by
      rcases hk with hk|⟨b,off,ha,hb,hlt,hk⟩
      · omega
      have hge:=hb.2.1 rfl;have hct:b.c=true:=by
        rcases hb.2.2 with h|h
        · exact h.2
        omega
      obtain⟨rfl,cx,elx,k1,k2,k3,k4⟩:=hk hct;have:=ABb k2 hop;subst this;exact .inr ⟨b.b,cx,ha,hge,hb.1,⟨fun _=>hge,.inl ⟨hge,rfl⟩⟩,k1,k3,k4⟩
    by_cases hroom:len+mm≤cap
    · rcases known with hk0|⟨b,cx,rfl,hge,hin,hold,k1,k3,k4⟩
      · omega
      have hrun:=run_append_room (P:=P) (w:=w) T ty e ti hu hi b len cap cx k1 ⟨blkq,0,none⟩ mm mm (cells.toList.take mm) hnl hnews hone hroom (by grind);rw[hnl,htz,Nat.mul_one,Nat.mul_one]at hrun;have hh:=setRow_heap w b cx (cx.toList.take len++cells.toList.take mm++cx.toList.drop (len+mm)).toArray e (0,0) k1;have hXs:(cx.toList.take len++cells.toList.take mm++cx.toList.drop (len+mm)).toArray.size=cx.size:=by
        grind
      have hX1:∀v∈(cx.toList.take len++cells.toList.take mm++cx.toList.drop (len+mm)).toArray.toList,v.oneCell'=true:=fun v hv=>by
        grind
      obtain⟨m1,x1⟩:=hs.M.tch (w':=w.setRow b (cx.toList.take len++cells.toList.take mm++cx.toList.drop (len+mm)).toArray) rfl rfl rfl (by simp) (fun k=>by
        by_cases hkb:k=b
        · subst hkb;exact .inr ⟨hin,hge,cx,_,e,k1,hh,hXs,hop,hX1⟩
        exact .inl (setRow_other w b k _ hkb))
      exact⟨_,_,hrun,m1,x1,.opq hlk hroom (.inr ⟨⟨b,true⟩,0,rfl,⟨hin,hold⟩,Er hh,fun _=>⟨rfl,_,e,hh,hop,by omega,hX1⟩⟩)⟩
    obtain⟨olds,ho1,ho2,ho3⟩:∃olds:List Value,olds.length=len∧(∀b,ax=some b→∀j v,olds[j]?=some v→w.cell? (b.add j)=some v)∧∀v∈olds,v.oneCell'=true:=by
      rcases known with hk0|⟨b,cx,rfl,hge,hin,hold,k1,k3,k4⟩
      · simp_all
      refine⟨cx.toList.take len,by grind,fun b' hb j v hj=>?_,fun v hv=>k4 v (List.mem_of_mem_take hv)⟩;cases hb;rw[FP,EA k1]
      grind
    have hnb:ax=none→len=0∧cap=0:=fun hn=>by
      grind
    have hrun:=ZQ (P:=P) (w:=w) (ty:=ty) hu hi hiz (base:=ax) (n:=len) (cap:=cap) (m:=mm) (c:=mm) (b:=blkq) (off:=0)
      (olds:=olds) (news:=cells.toList.take mm) (by grind) ho2 hnb hnl hnews (by omega) (by omega) (by
        grind)
    have hzl:zv.cells.size=1:=by
      have h3:=RelCs.length hrz.1
      grind
    have hge:=grownCap_ge w (len+mm) cap e;have hlt:=Js w.drew (.cells (olds.toArray++(cells.toList.take mm).toArray++Builtin.zeroCells zv.cells (grownCap w (len+mm) cap e-(len+mm))) e);have g:=(Grow.drew w).trans (Grow.alloc w.drew (.cells (olds.toArray++(cells.toList.take mm).toArray++Builtin.zeroCells zv.cells (grownCap w (len+mm) cap e-(len+mm))) e));refine⟨_,_,hrun,hs.M.grow g,g.ext P n0 _ β σ s,.opq hlk hge (.inr ⟨⟨w.heap.size,true⟩,0,rfl,⟨fun hm=>?_,Old.new hs.n0le⟩,Er hlt,fun _=>⟨rfl,_,e,hlt,hop,?_,fun v hv=>?_⟩⟩)⟩
    · rcases hm with⟨b,e1,he1,hb⟩|⟨i,h1,cap1,hh,_,hb⟩
      · have:=hs.M.ltB he1 hb;grind
      have:=hs.M.ltH hh hb;grind
    · simp only[Array.size_append,List.size_toArray,size_zeroCells,hzl,ho1,hnl,htz];omega
    simp only[Array.toList_append,List.mem_append]at hv
    rcases hv with(hv|hv)|hv
    · grind
    · grind
    exact AB0 hoz hzl _ v hv
end
section
variable {E:Env} {N:Nat} {P:Program} {n0:Nz} {nt:Nat} {β:Nat→Option Nat} {σ:Nat→Option (Nat×Nat)} {s s':St0 E N} {a:Act} {w w':World}
theorem kl(hs:Sim P n0 nt β σ s a w){e:TypeId}{q:Nat}{v:Value}{en:HEnt (std E N)}(hc:RelC P n0 β σ s w (.mp e q) v)(hh:s.getH q=some en) :
    en.e=e∧∃m r u t,v=.map (some r)∧σ q=some (r,0)∧e=DP P m∧Pf w m r u en.l∧(∀x∈en.l,x.length=m%16+1)∧Old n0 en.nw ⟨r,true⟩∧ValT P m t∧∀i,i<en.l.length→Rep P w (StB n0 β σ s en.nw) t (u i) (AD en.l i (m%16)):=by
  obtain⟨⟨hno,_⟩,hk⟩:=hc;obtain⟨he,r,hsq,hv⟩:=hk en hh
  rcases hs.M.H q en hh with⟨t,ts,ht,_⟩|⟨m,r',u,a1,a2,a3,a4,a5,a6,t,a7,a8⟩
  · simp_all
  grind
theorem ValT.ty{St:Blk→Prop}{m:Nat}{t t':TypeId}{v:Value}{p:PV}(h:ValT P m t)(h':ValT P m t')(hr:Rep P w St t v p):Rep P w St t' v p:=by
 unfold ValT at h h';cases hb:m.testBit 5
 ·rw[hb]at h h';have h:AL P t=.int .i64:=h;cases hr with
  |int h2=>rw[h]at h2;cases h2;exact .int h'
  |sl _ h2=>simp_all
  |bool h2=>simp_all
  |str h2=>simp_all
  |opq h2=>simp_all
  |ptN h2=>simp_all
  |pt h2=>simp_all
 rw[hb]at h h';obtain⟨e,h1,h2⟩:=h;obtain⟨e',h1',h2'⟩:=h';obtain⟨e0,rfl,_,h3⟩:=oh h1 h2;obtain⟨e1,rfl,_,h3'⟩:=oh h1' h2';rw[ADq h3' h3]at h1';cases hr with
 |sl u h4 h5 h6 h7 h8 h9 h10=>exact Rep.ty (.sl u h4 h5 h6 h7 h8 h9 h10) h1 h1'
 |ptN h4 h5=>exact Rep.ty (.ptN h4 h5) h1 h1'
 |pt h4 h5 h6=>exact Rep.ty (.pt h4 h5 h6) h1 h1'
 |int h4=>simp_all
 |bool h4=>simp_all
 |str h4=>simp_all
 |opq h4=>simp_all
theorem dD{L:Rows}{i j n:Nat}{r:List PV}:AD (L.set j r) i n=if j=i∧i<L.length then AA r n else AD L i n:=by
 unfold AD AB
 grind
theorem xK{n:Nat}{k:List Int}{p:PV}{L:Rows}(hk:k.length=n)(h:Xe n L)(i:Nat)(hi:i<(DL n k p L).length):(i=AX n k L∧AD (DL n k p L) i n=p)∨(i≠AX n k L∧i<L.length∧AD (DL n k p L) i n=AD L i n):=by
 have ml:=Lp n k L;unfold DL at hi⊢;cases hb:Nat.blt (AX n k L) L.length
 ·have hm:¬AX n k L<L.length:=fun hc=>by rw[show Nat.blt (AX n k L) L.length=true from Nat.ble_eq_true_of_le hc]at hb;cases hb
  rw[hb,cond_false,List.length_append,List.length_singleton]at hi;rw[cond_false]
  by_cases he:i=L.length
  ·subst he;refine .inl ⟨by omega,?_⟩;unfold AD AB;rw[zzl,List.getElem?_append_right (Nat.le_refl _),Nat.sub_self];exact ic hk
  refine .inr ⟨by omega,by omega,?_⟩;unfold AD AB
  grind
 have hm:AX n k L<L.length:=Nat.le_of_ble_eq_true hb;rw[hb,cond_true,List.length_set]at hi;rw[cond_true,dD]
 by_cases he:AX n k L=i
 ·subst he;refine .inl ⟨rfl,?_⟩;rw[if_pos ⟨rfl,hm⟩];refine jC ?_;rw[h _ (by unfold AB;simp_all)];omega
 grind
theorem na(hs:Sim P n0 nt β σ s a w){q m r:Nat}{u u':Nat→Value}{t:TypeId}{en:HEnt (std E N)}(hh:s.getH q=some en)(hfz:en.frozen=false)(hno:∀t,AL P t≠.sl en.e)(hm:en.e=DP P m)(hsq:σ q=some (r,0))(hat:Pf w m r u en.l)(hold:Old n0 en.nw ⟨r,true⟩)
    {L:Rows} (hL:∀x∈L,x.length=m%16+1) (ht:ValT P m t) (hr:∀i,i<L.length→Rep P w (StB n0 β σ s en.nw) t (u' i) (AD L i (m%16))) {wr:Wr (std E N)} (ht0:wr.ts=[]) (hb:wr.bs=[]) (hws:wr.hs=[(q,some { en with l:=L,dirty:=true })]) :
    Mem P n0 β σ (s.apply wr) (World.withMap w m r u' L)∧Ext P n0 (fun _=>False) β σ s w β σ (s.apply wr) (World.withMap w m r u' L)∧Tidy a (fun _=>False) s (s.apply wr):=by
  refine ed hs.M hh hfz ht0 hb hws rfl hfz rfl (fun⟨t,ht⟩=>(hno t ht).elim) rfl rfl rfl ?_ ?_ (fun x=>?_)
  · show(w.heap.setIfInBounds r _).size=_;simp
  · intro b hb2;have hne:b≠r:=fun e=>hb2 0 (by simp_all)
    exact(MapKept.heap_set hat).2 b hne
  exact .inr ⟨m,r,u',hm,hno,hsq,zC hat,hL,hold,t,ht,fun i hi=>x.rep (hr i hi)⟩
theorem dn:∀{cs:List (AC0 E N)} {vs:List Value} {ks:List Int},rR (O:=std E N) cs=some ks→RelCs P n0 β σ s w cs vs→vs=ks.map (Value.int .i64)
 | [],[],ks,h,_=>by cases h;rfl
 |c::cs,v::vs,ks,h,hr=>by
  unfold rR at h
  split at h
  ·trivial
  ·rename_i i r h0;cases h0
   split at h
   ·rename_i l hl;cases h;have hv:v=.int .i64 i:=hr.1;rw[dn hl hr.2,hv];rfl
   cases h
  cases h
 | [],_::_,_,_,h=>h.elim
 |_::_,[],_,_,h=>h.elim
theorem Q0{n k:Nat}(h:DP P n=DP P k):n=k:=by
 exact Nat.add_left_cancel h
theorem oQ{c:Bool}{kv:Val (std E N)}{v:Value}{ks:List Int}(h:RelVal P n0 β σ s w kv v)(hk:Zx (O:=std E N) c kv=some ks)(h1:c=true→ks.length=1):v=Dr c ks:=by
 unfold Zx at hk
 split at hk
 case h_2=>cases hk
 rename_i ha;obtain⟨h2,h3⟩:=h;cases c
 ·have ha:kv.agg=true:=by simp_all
  rw[ha]at h3;obtain⟨cs,rfl⟩:=h3;have:=dn hk h2;unfold Dr yL;simp only;congr 1;apply Array.ext';trivial
 have ha:kv.agg=false:=by simp_all
 rw[ha]at h3;have h3:v.oneCell'=true:=h3;have h4:=dn hk h2;rw[Bi h3]at h4
 match ks,h1 rfl,h4 with
 | [x],_,h4=>simpa[Dr]using h4
theorem ACQ{K:TypeId}{n:Nat}{c:Bool}(h:Vn P K n c=true):c=true→n=1:=fun hc=>by
 unfold Vn at h;subst hc
 split at h
 ·simp at h
 ·simp_all
 cases h
theorem jU{T:TypeId}{m:Nat}(h:Mc P T m=true)(hc:m.testBit 4=true):m%16=1:=by
 obtain⟨K,V,_,hK,_⟩:=OG h;exact ACQ hK hc
theorem AAq(hs:Sim P n0 nt β σ s a w){o:Oper}{T e:TypeId}{mm k v:Operand}(hop:o.op=.mapUpdate T mm k v){m:Nat}
    {q:Nat} {en:HEnt (std E N)} {kv:Val (std E N)} {ks:List Int} {p:PV} {t:TypeId} (hc:RelC P n0 β σ s w (.mp e q) (a.eval mm)) (hkv:RelVal P n0 β σ s w kv (a.eval k)) (hkc:Zx (O:=std E N) (m.testBit 4) kv=some ks) (hlen:ks.length=m%16)
    (ht:ValT P m t) (hx:Rep P w (StB n0 β σ s en.nw) t (a.eval v) p) (hh:s.getH q=some en) (hfz:en.frozen=false) (he:e=DP P m) (hmb:Mc P T m=true) {wr:Wr (std E N)} (hwr:wr={ hs:=[(q,some { en with l:=DL ks.length ks p en.l,dirty:=true })] }) :
    ∃w',(execOp a.eval o).run P w=.ok .skip w'∧Mem P n0 β σ (s.apply wr) w'∧Ext P n0 (fun _=>False) β σ s w β σ (s.apply wr) w'∧Tidy a (fun _=>False) s (s.apply wr):=by
  subst hwr;obtain⟨he1,m',r,u,t',hv,hsq,hm,hat,hr,hold,ht',hrep⟩:=kl hs hc hh;have hn:=Q0 (hm.symm.trans he);subst hn;have hk:=oQ hkv hkc (fun h=>hlen.trans (jU hmb h));have hno:∀t,AL P t≠.sl en.e:=by rw[he1];exact hc.1.1
  obtain⟨q1,q2,q3⟩:=na (a:=a) (u':=LV u (AX (m'%16) ks en.l) (a.eval v)) (L:=DL (m'%16) ks p en.l) (wr:={ hs:=[(q,some { en with l:=DL (m'%16) ks p en.l,dirty:=true })] }) hs hh hfz hno (he1.trans hm) hsq hat hold (XR hlen hr) ht (fun i hi=>by
    rcases xK hlen hr i hi with⟨rfl,e2⟩|⟨e1,e2,e3⟩
    · rw[e2,Yw];exact hx
    rw[e3,Ud u _ e1];exact ht'.ty ht (hrep i e2)) rfl rfl rfl
  have run:=mn (P:=P) hmb hlen hr (a.eval v) p hat;rw[hlen];refine⟨_,?_,q1,q2,q3⟩;simp[execOp,hop,hv,hk,run,Result.andThen]
theorem AC9(hs:Sim P n0 nt β σ s a w){T e:TypeId}{mm k:Operand}{m:Nat}{q:Nat}{en:HEnt (std E N)}{kv:Val (std E N)}{ks:List Int}(hc:RelC P n0 β σ s w (.mp e q) (a.eval mm))(hkv:RelVal P n0 β σ s w kv (a.eval k))(hkc:Zx (O:=std E N) (m.testBit 4) kv=some ks)(hlen:ks.length=m%16)
    (hh:s.getH q=some en) (he:e=DP P m) (hmb:Mc P T m=true) :
    ∃z,(Instr.lookup T (a.eval mm) (a.eval k) false).run P w=.ok z w∧(m.testBit 5=false→z=.int .i64 (Bq ks.length ks en.l)) ∧
      ∀t e2,m.testBit 5=true→AL P t=.sl e2→ptB≤e2→RelC P n0 β σ s w (.imm e2 en.nw (pvL (Mi ks.length ks en.l))) z:=by
  obtain⟨he1,m',r,u,t',hv,hsq,hm,hat,hr,hold,ht',hrep⟩:=kl hs hc hh;have hn:=Q0 (hm.symm.trans he);subst hn;refine⟨_,by rw[oQ hkv hkc (fun h=>hlen.trans (jU hmb h)),hv];exact mM hmb hlen hr hat,fun h5=>?_,fun t e2 h5 hl hge=>?_⟩
  · rw[hlen];unfold ValT at ht';rw[h5]at ht'
    by_cases hi:AX (m'%16) ks en.l<en.l.length
    · rw[if_pos hi];exact oF (hrep _ hi) ht'
    rw[if_neg hi];unfold bA Bq;rw[h5,Y3 hi];rfl
  rw[hlen];have hvt:ValT P m' t:=by unfold ValT;simp_all
  refine⟨t,hl,?_⟩
  by_cases hi:AX (m'%16) ks en.l<en.l.length
  · rw[if_pos hi];exact AAZ (ht'.ty hvt (hrep _ hi)) hl
  rw[if_neg hi,Y3 hi];unfold bA;rw[h5];exact .ptN hl hge
theorem AEp(hs:Sim P n0 nt β σ s a w){o:Oper}{T e:TypeId}{mm k:Operand}(hop:o.op=.mapEntry T mm k){m:Nat}
    {q:Nat} {en:HEnt (std E N)} {kv:Val (std E N)} {ks:List Int} (hc:RelC P n0 β σ s w (.mp e q) (a.eval mm)) (hkv:RelVal P n0 β σ s w kv (a.eval k)) (hkc:Zx (O:=std E N) (m.testBit 4) kv=some ks) (hlen:ks.length=m%16) (h5:m.testBit 5=false)
    (hh:s.getH q=some en) (hfz:en.frozen=false) (he:e=DP P m) (hmb:Mc P T m=true) {wr:Wr (std E N)} (hwr:wr={ hs:=[(q,some { en with l:=DL ks.length ks (.int (Bq ks.length ks en.l)) en.l,dirty:=true })] }) :
    ∃w',(execOp a.eval o).run P w=.ok (.value (.tuple #[.int .i64 (Bq ks.length ks en.l),.int .i64 (AX ks.length ks en.l:Nat)])) w'∧Mem P n0 β σ (s.apply wr) w' ∧
      Ext P n0 (fun _=>False) β σ s w β σ (s.apply wr) w'∧Tidy a (fun _=>False) s (s.apply wr):=by
  subst hwr;obtain⟨he1,m',r,u,t',hv,hsq,hm,hat,hr,hold,ht',hrep⟩:=kl hs hc hh;have hn:=Q0 (hm.symm.trans he);subst hn;have hk:=oQ hkv hkc (fun h=>hlen.trans (jU hmb h));have hno:∀t,AL P t≠.sl en.e:=by rw[he1];exact hc.1.1
  have hti:AL P t'=.int .i64:=by unfold ValT at ht';simp_all
  have hz:(if AX (m'%16) ks en.l<en.l.length then u (AX (m'%16) ks en.l)else bA m')=.int .i64 (Bq (m'%16) ks en.l):=by
    by_cases hi:AX (m'%16) ks en.l<en.l.length
    · rw[if_pos hi];exact oF (hrep _ hi) hti
    rw[if_neg hi];unfold bA Bq;rw[h5,Y3 hi];rfl
  have run:=nT (P:=P) hmb hlen hr (.int (Bq (m'%16) ks en.l)) hat;rw[hz]at run;rw[hlen];obtain⟨q1,q2,q3⟩:=na (a:=a) (u':=LV u (AX (m'%16) ks en.l) (.int .i64 (Bq (m'%16) ks en.l))) (L:=DL (m'%16) ks (.int (Bq (m'%16) ks en.l)) en.l) (wr:={ hs:=[(q,some { en with l:=DL (m'%16) ks (.int (Bq (m'%16) ks en.l)) en.l,dirty:=true })] }) hs hh hfz hno (he1.trans hm) hsq hat hold (XR hlen hr) ht' (fun i hi=>by
    rcases xK hlen hr i hi with⟨rfl,e2⟩|⟨e1,e2,e3⟩
    · rw[e2,Yw];exact .int hti
    rw[e3,Ud u _ e1];simp_all) rfl rfl rfl
  refine⟨_,?_,q1,q2,q3⟩;simp[execOp,hop,hv,hk,run,Result.andThen]
theorem AE2(hs:Sim P n0 nt β σ s a w){o:Oper}{T e:TypeId}{mm st v:Operand}(hop:o.op=.entryStore T mm st v){m:Nat}
    {q:Nat} {en:HEnt (std E N)} {i z:Int} (hc:RelC P n0 β σ s w (.mp e q) (a.eval mm)) (hi:a.eval st=.int .i64 i) (hx:a.eval v=.int .i64 z) (h5:m.testBit 5=false)
    (hh:s.getH q=some en) (hfz:en.frozen=false) (he:e=DP P m) (hin:iIn i (en.l.length:Int)=true) {wr:Wr (std E N)} (hwr:wr={ hs:=[(q,some { en with l:=(std E N).w en.l i (m%16) [.int z],dirty:=true })] }) :
    ∃w',(execOp a.eval o).run P w=.ok .skip w'∧Mem P n0 β σ (s.apply wr) w' ∧
      Ext P n0 (fun _=>False) β σ s w β σ (s.apply wr) w'∧Tidy a (fun _=>False) s (s.apply wr):=by
  subst hwr;obtain⟨he1,m',r,u,t',hv,hsq,hm,hat,hr,hold,ht',hrep⟩:=kl hs hc hh;have hn:=Q0 (hm.symm.trans he);subst hn;have hno:∀t,AL P t≠.sl en.e:=by rw[he1];exact hc.1.1
  have hti:AL P t'=.int .i64:=by unfold ValT at ht';simp_all
  simp only[iIn,decide_eq_true_eq]at hin;obtain⟨j,rfl⟩:∃j:Nat,i=j:=⟨i.toNat,by omega⟩;have hj:j<en.l.length:=by omega
  have el:(std E N).w en.l (j:Int) (m'%16) [.int z]=en.l.set j (Jd (m'%16) (.int z) (AB en.l j)):=by
    rfl
  rw[el];have hjl:(AB en.l j).length=m'%16+1:=hr _ (by
    unfold AB
    simp_all)
  have hL:∀x∈en.l.set j (Jd (m'%16) (.int z) (AB en.l j)),x.length=m'%16+1:=fun x hx=>by
    rcases List.mem_or_eq_of_mem_set hx with hx|rfl
    · grind
    rw[uZ];exact hjl
  have run:=oM (P:=P) (T:=T) hj (.int .i64 z) (.int z) hat;obtain⟨q1,q2,q3⟩:=na (a:=a) (u':=LV u j (.int .i64 z)) (wr:={ hs:=[(q,some { en with l:=en.l.set j (Jd (m'%16) (.int z) (AB en.l j)),dirty:=true })] }) hs hh hfz hno (he1.trans hm) hsq hat hold hL ht' (fun i hi=>by
    rw[List.length_set]at hi;rw[dD]
    by_cases hij:j=i
    · subst hij;rw[if_pos ⟨rfl,hj⟩,Yw,jC (by omega)];exact .int hti
    rw[if_neg fun hc=>hij hc.1,Ud u _ (fun e=>hij e.symm)]
    simp_all) rfl rfl rfl
  refine⟨_,?_,q1,q2,q3⟩;simp[execOp,hop,hv,hi,hx,run,Result.andThen]
theorem ADj{V:TypeId}{c:AC0 E N}{v:Value}{as:List Bool}{l:Rows}{nw:Bool}{k k':Nat}(hc:RelC P n0 β σ s w c v)(h:RM.run s (AB5 (O:=std E N) P V c) k=.ok ((as,l,nw),k'))(has:∀b∈as,b=true) :
    Rep P w (StB n0 β σ s nw) V v (.rows l):=by
  unfold AB5 at h
  split at h
  · rename_i e e' nw' l' hl;obtain⟨_,k1,h1,h2⟩:=zza h;have he:=AE.1 (zzd h1);subst he;cases zzc h2;obtain⟨t,ht,hr⟩:=hc;exact hr.ty ht hl
  · rename_i e e' nw' l' i off hl;obtain⟨_,k1,h1,h2⟩:=zza h;have hg:=zzd h1;rw[zzk]at hg;have he:=AE.1 hg.1;have ho:=AE.1 hg.2;subst he;subst ho;cases zzc h2;obtain⟨h0,h3,t,ts,blk,boff,len,cap,ht,hts,hr,rfl⟩:=hc;obtain⟨i,rfl⟩:∃j:Int,j=i:=⟨i,rfl⟩;have h0:(0:Int)≤i:=h0;have h3:i<((List.length l':Nat):Int):=h3;have hsm:=(sj (has _ zzm)).2.1;have hw:IntKind.i64.wrap (i+1)=i+1:=by
      unfold IntKind.wrap;simp[IntKind.signed,IntKind.bits];omega
    have hlen:List.length l'=len:=by cases hr;assumption
    have hcap:len≤cap:=by cases hr;assumption
    have hsub:=Rep.sub hr (lo:=i.toNat) (hi:=i.toNat+1) (by omega) (by omega) ht hts;have e1:(std E N).ai l' i ((std E N).p .i64 i ((std E N).lit .i64 1))=(l'.take (i.toNat+1)).drop i.toNat:=by
      grind
    rw[e1];rw[if_neg (by omega),Nat.add_sub_cancel_left]at hsub;exact .pt hl ht (by simpa[FP]using hsub)
  trivial
theorem AC6(m:Mem P n0 β σ s w){id:Nat}(hf:Fresh a s id){fr:List (Nat×Option (HEnt (std E N)))}(hfr:PreOK s fr){h:HEnt (std E N)}{wr:Wr (std E N)}
    (ht0:wr.ts=[]) (hb:wr.bs=[]) (hh:wr.hs=fr++[(id,some h)]) (hd:h.dirty=true) (hz:h.frozen=false) {w1:World} (g:Grow w w1) {cap:Nat} {ob:Obj}
    (hrel:Ext P n0 (·=id) β σ s w β (upd σ id (some (w1.heap.size,cap))) (s.apply wr) (w1.alloc ob)→RelH P n0 β (upd σ id (some (w1.heap.size,cap))) (s.apply wr) (w1.alloc ob) id h) :
    Mem P n0 β (upd σ id (some (w1.heap.size,cap))) (s.apply wr) (w1.alloc ob) ∧
      Ext P n0 (·=id) β σ s w β (upd σ id (some (w1.heap.size,cap))) (s.apply wr) (w1.alloc ob)∧Tidy a (·=id) s (s.apply wr) ∧
      (s.apply wr).getH id=some h:=by
  have gB:=fun n=>State.getB_apply0 s wr hb n
  have gs:∀n,(s.apply wr).getH n=if n=id then some h else(s.apply { hs:=fr }).getH n:=fun n=>by
    unfold State.apply State.getH;simp only[hh,FQ,BR];exact BW _ _ _ _
  have old:∀n e,s.getH n=some e→n≠id:=fun n e he h=>(hf.h n e he h.symm)
  have fget:∀n h',n≠id→(s.apply wr).getH n=some h'→∃h0,s.getH n=some h0∧(h'=h0∨h'={ h0 with frozen:=true,dirty:=true }):=fun n h' hn he=>by
    rw[gs,if_neg hn]at he;exact hfr.get rfl n h' he
  have gg:=g.trans (Grow.alloc w1 ob);have x:Ext P n0 (·=id) β σ s w β (upd σ id (some (w1.heap.size,cap))) (s.apply wr) (w1.alloc ob):=by
    refine⟨gg.os,gg.tape,gg.output,gg.size,fun b hb _=>.inl (gg.old b hb),fun b hb=>?_,fun b e he hn=>?_,fun n e he hn=>?_⟩
    · rcases hb with⟨n,e,he,hb⟩|⟨n,e,cap',he,hfz,hb⟩
      · rw[gB]at he;exact .inl (.inl ⟨n,e,he,hb⟩)
      by_cases hid:n=id
      · rw[hid,BO]at hb;cases hb;exact .inr g.size
      obtain⟨h0,hh0,h1⟩:=fget n e hid he;rw[BU _ _ hid]at hb
      rcases h1 with rfl|rfl
      · exact .inl (.inr ⟨n,e,cap',hh0,hfz,hb⟩)
      grind
    · simp_all
    obtain⟨h0,hh0,h1⟩:=fget n e hn he;refine⟨h0,hh0,BU _ _ hn,?_⟩
    grind
  have hget:(s.apply wr).getH id=some h:=by simp_all
  refine⟨UW (id:=id) m x (fun n e he=>?_) (fun n e blk he hb=>?_) (fun n h' hn he=>?_) (fun n h' blk cap' hn he hs=>?_) (fun h' he=>?_) (fun blk cap' hs=>?_),x,⟨fun n hfn hn=>?_,fun n e he hd'=>?_,fun n e he hd'=>?_⟩,hget⟩
  · rw[gB]at he;exact⟨e,he,rfl,fun k hk h=>(hf.b n e he).2 (h▸hk)⟩
  · rw[gB]at he;exact gg.old blk (m.ltB he hb)
  · obtain⟨h0,hh0,h1⟩:=fget n h' hn he;refine⟨h0,hh0,?_⟩
    rcases h1 with rfl|rfl
    · exact⟨rfl,rfl,rfl,fun h=>h,BU _ _ hn⟩
    exact⟨rfl,rfl,rfl,(fun h=>by cases h),BU _ _ hn⟩
  · obtain⟨h0,hh0,_⟩:=fget n h' hn he;exact gg.old blk (m.ltH hh0 hs)
  · simp_all
  · rw[BO]at hs;cases hs;refine⟨fun n e he hb=>?_,fun n h' cap'' hn he hs=>?_⟩
    · rw[gB]at he;have:=m.ltB he hb;have:=g.size;omega
    obtain⟨h0,hh0,_⟩:=fget n h' hn he;have:=m.ltH hh0 hs;have:=g.size;omega
  · refine⟨fun k tv hk=>?_,fun k e he=>?_,fun k e he=>?_⟩
    · rw[State.getT_apply0 s wr ht0]at hk;exact hfn.t k tv hk
    · rw[gB]at he;exact hfn.b k e he
    by_cases hk:k=id
    · omega
    obtain⟨h0,hh0,_⟩:=fget k e hk he;exact hfn.h k h0 hh0
  · simp_all
  grind
theorem AFd(hs:Sim P n0 nt β σ s a w){id:Nat}(hid:Fresh a s id){o:Oper}{T:TypeId}{m:Nat}(hop:o.op=.makeMap T none)(hno:∀t,AL P t≠.sl (DP P m))(hmb:Mc P T m=true) :
    let wr:Wr (std E N):={ hs:=[(id,some { e:=DP P m,frozen:=false,nw := !m.testBit 5,l:=(std E N).u,dirty:=true })] }
    ∃v σ' w',(execOp a.eval o).run P w=.ok (.value v) w'∧Mem P n0 β σ' (s.apply wr) w'∧Ext P n0 (·=id) β σ s w β σ' (s.apply wr) w'∧Tidy a (·=id) s (s.apply wr)∧RelC P n0 β σ' (s.apply wr) w' (.mp (DP P m) id) v:=by
  intro wr;have frn:FrOK s ([]:List (Nat×Option (HEnt (std E N)))):=fun n v hm=>by simp at hm
  obtain⟨K,V,_,_,hV,_⟩:=OG hmb;obtain⟨q1,q2,q3,q4⟩:=AC6 (P:=P) (n0:=n0) (a:=a) hs.M hid frn.pre (h:={ e:=DP P m,frozen:=false,nw := !m.testBit 5,l:=[],dirty:=true }) (wr:=wr) rfl rfl rfl rfl rfl (Grow.refl w) (cap:=0) (ob:=.map #[] 0)
    (fun x=>.inr ⟨m,w.heap.size,fun _=>undef,rfl,hno,BO _ _ _,Js _ _,fun y hy=>absurd hy List.not_mem_nil,Old.new hs.n0le,V,hV,fun i hi=>absurd hi (Nat.not_lt_zero i)⟩)
  refine⟨.map (some w.heap.size),_,_,?_,q1,q2,q3,⟨hno,_,rfl⟩,fun h2 hh2=>?_⟩
  · have e:(Instr.makeMap T none).run P w=.ok (.map (some w.heap.size)) (w.alloc (.map #[] 0)):=rfl;simp only[execOp,hop,Option.map_none,Sem.run_bind,e,Result.andThen_ok,Sem.run_pure]
  have hh3:=q4.symm.trans hh2;cases hh3;exact⟨rfl,w.heap.size,BO _ _ _,rfl⟩
end
end Go.Px
end
