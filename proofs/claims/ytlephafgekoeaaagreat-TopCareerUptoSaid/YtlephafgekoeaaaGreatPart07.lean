/- Part 7. -/
import Derived.Test.YtlephafgekoeaaaGreatPart06
set_option linter.unusedVariables false
set_option linter.unusedSimpArgs false
section
namespace Go.Px
section
variable {E:Env} {N:Nat} {P:Program} {cfg:Cfg} {n0 n0':Nz} {nt:Nat} {β β':Nat→Option Nat} {σ σ':Nat→Option (Nat×Nat)} {s s' s2:St0 E N} {a:Act} {w w':World}
theorem Holds.head {cv:List PV} {j:Nat} {l:AQ} {ls:List AQ} (h:Holds cv j (l::ls)):AA cv j=l.pv:=h 0 l rfl
theorem Holds.tail {cv:List PV} {j:Nat} {l:AQ} {ls:List AQ} (h:Holds cv j (l::ls)):Holds cv (j+1) ls:=fun i x hx=>by
 have:=h (i+1) x (by simpa using hx);rw[show j+1+i=j+(i+1) by omega];exact this
theorem Vg (m:Mem P n0 β σ s w) {keep:List Nat}:∀ {scs:List SlotC} {cs:List (AC0 E N)} {vals:List Value} {ls:List AQ} {used u:List Nat},H1 (O:=std E N) s keep used scs cs=.ok (ls,u)→RelCs P n0 β σ s w cs vals →
    ∀(cv:List PV) (j:Nat),Holds cv j ls→∀(q:Nat),ls.length=scs.length ∧
    ∃(os:List (Option Nat)) (fr:List (Nat×Option (HEnt (std E N)))),Enc s keep used u os fr∧Ents P s q os (AP E N cv j q scs).2∧(∀p∈(AP E N cv j q scs).2,p.2.dirty=true) ∧
      (∀n∈AH (AP E N cv j q scs).1,q≤n∧n<q+(AP E N cv j q scs).2.length) ∧
      ∀(sf:St0 E N),Sub s sf→Frz sf fr→∀(σ2:Nat→Option (Nat×Nat)) (S:St0 E N),(∀nw b,StB n0 β σ sf nw b→StB n0 β σ2 S nw b)→Wired σ σ2 S q os (AP E N cv j q scs).2→RelCs P n0 β σ2 S w (AP E N cv j q scs).1 vals
  | [],[],[],ls,used,u,h,_=>by
    intro cv j _ q;simp only[H1]at h;cases h;exact⟨rfl,[],[],Enc.nil,trivial,fun p hp=>by simp[AP,L3]at hp,fun n hn=>by simp[AP,L3,AH]at hn,fun _ _ _ _ _ _ _=>trivial⟩
  |sc::scs,c::cs,v::vals,ls,used,u,h,hc=>by
    intro cv j hh q;simp only[H1]at h
    split at h
    · cases h
    rename_i l u1 h1
    split at h
    · cases h
    rename_i ls2 u2 h2;cases h;obtain⟨os1,fr1,a1,a2,a3,a4,a5⟩:=yS m h1 hc.1 hh.head q;obtain⟨hlen,os2,fr2,b1,b2,b3,b4,b5⟩:=Vg m h2 hc.2 _ _ hh.tail (q+(DB E N cv j q sc).2.length);have e1:(AP E N cv j q (sc::scs)).1=(DB E N cv j q sc).1::(AP E N cv (j+1) (q+(DB E N cv j q sc).2.length) scs).1:=rfl;have e2:(AP E N cv j q (sc::scs)).2=(DB E N cv j q sc).2++(AP E N cv (j+1) (q+(DB E N cv j q sc).2.length) scs).2:=rfl;rw[e1,e2];refine⟨by simp[hlen],os1++os2,fr1++fr2,a1.append b1,a2.append b2,fun p hp=>?_,fun n hn=>?_,fun sf hs hf σ2 S hst hw=>⟨?_,?_⟩⟩
    · exact(List.mem_append.1 hp).elim (a3 p) (b3 p)
    · simp only[AH,List.mem_append]at hn;rw[List.length_append]
      rcases hn with hn|hn
      · have:=a4 n hn;omega
      have:=b4 n hn;omega
    · exact a5 sf hs hf.left σ2 S hst (hw.left a2.len)
    exact b5 sf hs hf.right σ2 S hst (hw.right a2.len)
  | [],_::_,_,_,_,_,h,_=>by simp only[H1]at h;cases h
  |_::_,[],_,_,_,_,h,_=>by simp only[H1]at h;cases h
  |_,[],_::_,_,_,_,_,hc=>hc.elim
  |_,_::_,[],_,_,_,_,hc=>hc.elim
theorem Zu {q:Nat} {r r':List (Nat×HEnt (std E N))} (h1:Row q r) (h2:Row (q+r.length) r') (n:Nat):AL (r++r') n=match AL r' n with
    |some a=>some a
    |none=>AL r n:=by
  rw[IJ];cases e1:AL r n with
  |none=>cases AL r' n<;>rfl
  |some x =>
    cases e2:AL r' n with
    |none=>rfl
    |some y =>
      have m1:=h1.mem _ (h1.get e1);have m2:=h2.mem _ (h2.get e2);simp at m1 m2;omega
theorem vy (cv:List PV) (j q n:Nat) (agg:Bool) (cs:List SlotC) (r:List Slot) (u:St0 E N):Bk (O:=std E N) cv j q (.t n agg cs::r) u =
    Bk cv (j+cs.length) (q+(AP E N cv j q cs).2.length) r { u with tm:=GT u.tm n (some ⟨[],.val { agg,cs:=(AP E N cv j q cs).1 }⟩),hp:=(AP E N cv j q cs).2++u.hp }:=rfl
theorem Xn (cv:List PV) (j q n:Nat) (cs:List SlotC) (r:List Slot) (u:St0 E N):Bk (O:=std E N) cv j q (.b n cs::r) u =
    Bk cv (j+cs.length) (q+(AP E N cv j q cs).2.length) r { u with bx:=OE u.bx n (some { cs:=(AP E N cv j q cs).1,dirty:=true }),hp:=(AP E N cv j q cs).2++u.hp }:=rfl
theorem ACg {keep used u:List Nat} {scs:List SlotC} {cs:List (AC0 E N)} {ls:List AQ} (h:H1 (O:=std E N) s keep used scs cs=.ok (ls,u)) {blk:Nat} {cells:Array Value} {el:TypeId} (hb:BH blk cells el cs) {cv:List PV} {j q:Nat} :
    BH blk cells el (AP E N cv j q scs).1:=by
  cases scs with
  |nil=>trivial
  |cons sc r=>cases cs with
    |nil=>simp[H1]at h
    |cons c r'=>cases sc with
      |any T =>
        cases c<;>simp only[H1,Iy]at h<;>try cases h
        rename_i T';cases ht:Nat.beq T T'
        · rw[ht]at h;cases h
        have:=AG.1 ht;subst this;exact hb
      |_=>trivial
theorem aV (hs:Sim P n0 nt β σ s a w) {keep:List Nat}:∀ {sl:List Slot} {used:List Nat} {ls:List AQ},I8 (O:=std E N) s keep used sl=.ok ls →
    ∀(cv:List PV) (j:Nat),Holds cv j ls→∀(q:Nat) (u:St0 E N),∃(u':List Nat) (NH:List (Nat×HEnt (std E N))) (os:List (Option Nat)) (fr:List (Nat×Option (HEnt (std E N)))),Enc s keep used u' os fr∧Ents P s q os NH∧(∀p∈NH,p.2.dirty=true) ∧
      (Bk (O:=std E N) cv j q sl u).st=q+NH.length∧(∀n,(Bk (O:=std E N) cv j q sl u).getH n=match AL NH n with|some h=>some h|none=>u.getH n) ∧
      ∀(sf:St0 E N),Sub s sf→Frz sf fr→∀(σ2:Nat→Option (Nat×Nat)) (S:St0 E N),(∀nw b,StB n0 β σ sf nw b→StB n0 β σ2 S nw b)→Wired σ σ2 S q os NH →
        (∀n tv,(Bk (O:=std E N) cv j q sl u).getT n=some tv→u.getT n=some tv∨(tv.gs=[]∧RelAV P n0 β σ2 S w tv.v (a.tmps.getD n undef)∧∀k∈tv.v.names,k<q+NH.length)) ∧
        (∀n e,(Bk (O:=std E N) cv j q sl u).getB n=some e→u.getB n=some e∨(e.dirty=true∧(∃cs,Slot.b n cs∈sl)∧(∃e0,s.getB n=some e0)∧yd P n0 β σ2 S w n e∧∀k∈AH e.cs,k<q+NH.length))
  | [],used,ls,h=>by
    intro cv j _ q u;exact⟨used,[],[],[],Enc.nil,trivial,fun p hp=>by simp at hp,rfl,fun n=>rfl,fun _ _ _ _ _ _ _=>⟨fun n tv h=>.inl h,fun n e h=>.inl h⟩⟩
  | .t n agg scs::r,used,ls,h=>by
    intro cv j hh q u;simp only[I8]at h
    split at h
    case h_2=>cases h
    rename_i v ht
    split at h
    case h_2=>cases h
    case h_3=>cases h
    rename_i ls1 u1 hagg h1
    split at h
    case h_2=>cases h
    rename_i more h2;cases h;have hv:RelAV P n0 β σ s w (.val v) (a.tmps.getD n undef):=by
      rcases hs.T n _ ht with⟨_,h3⟩|⟨h3,_⟩
      · exact h3
      exact(h3 (fun n b hm=>by simp at hm)).elim
    have hv:RelVal P n0 β σ s w v (a.tmps.getD n undef):=hv;obtain⟨hlen,os1,fr1,a1,a2,a3,a4,a5⟩:=Vg hs.M h1 hv.1 _ _ hh.left q;rw[vy];obtain⟨u',NH,os2,fr2,b1,b2,b3,b4,b5,b6⟩:=aV hs h2 cv (j+scs.length) (by rw[←hlen];exact hh.right) (q+(AP E N cv j q scs).2.length)
      { u with tm:=GT u.tm n (some ⟨[],.val { agg,cs:=(AP E N cv j q scs).1 }⟩),hp:=(AP E N cv j q scs).2++u.hp }
    refine⟨u',(AP E N cv j q scs).2++NH,os1++os2,fr1++fr2,a1.append b1,a2.append b2,fun p hp=>(List.mem_append.1 hp).elim (a3 p) (b3 p),by rw[b4,List.length_append,Nat.add_assoc],fun k=>?_,fun sf hsub hf σ2 S hst hw=>?_⟩
    · rw[b5,Zu a2.row b2.row];cases AL NH k with
      |some x=>rfl
      |none =>
        show AL ((AP E N cv j q scs).2++u.hp) k=_;rw[IJ];cases AL (AP E N cv j q scs).2 k<;>rfl
    obtain⟨c1,c2⟩:=b6 sf hsub hf.right σ2 S hst (hw.right a2.len);refine⟨fun k tv hk=>?_,fun k e hk=>?_⟩
    · rcases c1 k tv hk with h3|⟨h3,h4,h5⟩
      · have h3:DR (GT u.tm n (some ⟨[],.val { agg,cs:=(AP E N cv j q scs).1 }⟩)) k=some tv:=h3;rw[ER]at h3
        split at h3
        · rename_i hkn;cases h3;refine .inr ⟨rfl,?_,fun x hx=>?_⟩
          · rw[hkn.1];refine⟨a5 sf hsub hf.left σ2 S hst (hw.left a2.len),?_⟩;have hag:v.agg=agg:=by simpa using hagg
            have:=hv.2;rw[hag]at this;exact this
          have:=a4 x hx;rw[List.length_append];omega
        exact .inl h3
      exact .inr ⟨h3,h4,fun x hx=>by have:=h5 x hx;rw[List.length_append];omega⟩
    rcases c2 k e hk with h3|⟨h3,⟨cs,h4⟩,h5,h6,h7⟩
    · exact .inl h3
    exact .inr ⟨h3,⟨cs,zzm _ h4⟩,h5,h6,fun x hx=>by have:=h7 x hx;rw[List.length_append];omega⟩
  | .b n scs::r,used,ls,h=>by
    intro cv j hh q u;simp only[I8]at h
    split at h
    case h_2=>cases h
    rename_i e0 he0
    split at h
    case h_2=>cases h
    rename_i ls1 u1 h1
    split at h
    case h_2=>cases h
    rename_i more h2;cases h;obtain⟨blk,cells,el,hβ,hheap,hrel,hbh⟩:=hs.M.B n e0 he0;obtain⟨hlen,os1,fr1,a1,a2,a3,a4,a5⟩:=Vg hs.M h1 hrel _ _ hh.left q;rw[Xn];obtain⟨u',NH,os2,fr2,b1,b2,b3,b4,b5,b6⟩:=aV hs h2 cv (j+scs.length) (by rw[←hlen];exact hh.right) (q+(AP E N cv j q scs).2.length)
      { u with bx:=OE u.bx n (some { cs:=(AP E N cv j q scs).1,dirty:=true }),hp:=(AP E N cv j q scs).2++u.hp }
    refine⟨u',(AP E N cv j q scs).2++NH,os1++os2,fr1++fr2,a1.append b1,a2.append b2,fun p hp=>(List.mem_append.1 hp).elim (a3 p) (b3 p),by rw[b4,List.length_append,Nat.add_assoc],fun k=>?_,fun sf hsub hf σ2 S hst hw=>?_⟩
    · rw[b5,Zu a2.row b2.row];cases AL NH k with
      |some x=>rfl
      |none =>
        show AL ((AP E N cv j q scs).2++u.hp) k=_;rw[IJ];cases AL (AP E N cv j q scs).2 k<;>rfl
    obtain⟨c1,c2⟩:=b6 sf hsub hf.right σ2 S hst (hw.right a2.len);refine⟨fun k tv hk=>?_,fun k e hk=>?_⟩
    · rcases c1 k tv hk with h3|⟨h3,h4,h5⟩
      · exact .inl h3
      exact .inr ⟨h3,h4,fun x hx=>by have:=h5 x hx;rw[List.length_append];omega⟩
    rcases c2 k e hk with h3|⟨h3,⟨cs,h4⟩,h5,h6,h7⟩
    · have h3:AL (OE u.bx n (some { cs:=(AP E N cv j q scs).1,dirty:=true })) k=some e:=h3;rw[BQ]at h3
      split at h3
      · rename_i hkn;cases h3;subst hkn;exact .inr ⟨rfl,⟨scs,zzl⟩,⟨e0,he0⟩,⟨blk,cells,el,hβ,hheap,a5 sf hsub hf.left σ2 S hst (hw.left a2.len),ACg h1 hbh⟩,fun x hx=>by have:=a4 x hx;rw[List.length_append];omega⟩
      exact .inl h3
    exact .inr ⟨h3,⟨cs,zzm _ h4⟩,h5,h6,fun x hx=>by have:=h7 x hx;rw[List.length_append];omega⟩
structure Joined (P:Program) (n0:Nz) (nt L:Nat) (β:Nat→Option Nat) (σ:Nat→Option (Nat×Nat)) (s:St0 E N) (a:Act) (w:World) (base:St0 E N) (sl:List Slot) (S:St0 E N) (σ2:Nat→Option (Nat×Nat)):Prop where
 sim:Sim P n0 nt β σ2 S a w
 ext:Ext P n0 (fun n=>L≤n) β σ s w β σ2 S w
 wf:WF S
 st:L≤S.st
 cleanB:∀n e,S.getB n=some e→e.dirty=false→base.getB n=some e
 cleanH:∀n e,S.getH n=some e→e.dirty=false→base.getH n=some e
 oldB:∀n e,S.getB n=some e→base.getB n=some e∨∃c,Slot.b n c∈sl
 oldH:∀n h,n<L→S.getH n=some h→base.getH n=some h
theorem zy (hs:Sim P n0 nt β σ s a w) {base:St0 E N} {L:Nat}
    (hbT:∀n tv,base.getT n=some tv→tv.gs=[]∧RelAV P n0 β σ s w tv.v (a.tmps.getD n undef)∧∀k∈tv.v.names,k<L)
    (hbB:∀n e,base.getB n=some e→n<L∧(∃e',s.getB n=some e'∧e'.cs=e.cs)∧∀k∈AH e.cs,k<L)
    (hbH:∀n h,base.getH n=some h→n<L∧∃h',s.getH n=some h'∧h'.e=h.e∧h'.l=h.l∧h'.nw=h.nw∧h'.frozen=h.frozen)
    {rs:List SlotC} {cs:List (AC0 E N)} {vals:List Value} (hcs:RelCs P n0 β σ s w cs vals) {sl:List Slot} (hsl:∀b c,Slot.b b c∈sl→b<L) {ls1 ls2:List AQ} {used:List Nat}
    (h1:H1 (O:=std E N) s (base.hp.map (·.1)) [] rs cs=.ok (ls1,used)) (h2:I8 (O:=std E N) s (base.hp.map (·.1)) used sl=.ok ls2) {cv:List PV} {j:Nat} (hcv:Holds cv j (ls1++ls2)) :
    ∃(σ2:Nat→Option (Nat×Nat)) (S:St0 E N),S=Bk (O:=std E N) cv (j+rs.length) (L+(AP E N cv j L rs).2.length) sl { base with hp:=(AP E N cv j L rs).2++base.hp } ∧
      RelCs P n0 β σ2 S w (AP E N cv j L rs).1 vals∧(∀n∈AH (AP E N cv j L rs).1,n<S.st)∧Joined P n0 nt L β σ s a w base sl S σ2:=by
  obtain⟨hlen,os1,fr1,a1,a2,a3,a4,a5⟩:=Vg hs.M h1 hcs _ _ hcv.left L;obtain⟨u',NH2,os2,fr2,b1,b2,b3,b4,b5,b6⟩:=aV hs h2 cv (j+rs.length) (by rw[←hlen];exact hcv.right) (L+(AP E N cv j L rs).2.length) { base with hp:=(AP E N cv j L rs).2++base.hp };generalize hS:Bk (O:=std E N) cv (j+rs.length) (L+(AP E N cv j L rs).2.length) sl { base with hp:=(AP E N cv j L rs).2++base.hp }=S at *
  have enc:=a1.append b1;have ents:=a2.append b2;have hst:S.st=L+((AP E N cv j L rs).2++NH2).length:=by rw[b4,List.length_append,Nat.add_assoc]
  have row:=ents.row;have gH:∀n,S.getH n=match AL ((AP E N cv j L rs).2++NH2) n with|some h=>some h|none=>base.getH n:=fun n=>by
    rw[b5,Zu a2.row b2.row];cases AL NH2 n with
    |some x=>rfl
    |none =>
      show AL ((AP E N cv j L rs).2++base.hp) n=_;rw[IJ];cases AL (AP E N cv j L rs).2 n<;>rfl
  generalize hNH:(AP E N cv j L rs).2++NH2=NH at *
  generalize hos:os1++os2=os at *
  generalize hfr:fr1++fr2=fr at *
  let σ2:Nat→Option (Nat×Nat):=fun n=>if n<L then σ n else match os[n-L]? with
    |some (some i)=>σ i
    |_=>none
  let sf:=s.apply ({ hs:=fr }:Wr (std E N))
  have subf:Sub s sf:=enc.ok.sub rfl rfl;have frz:Frz sf fr:=enc.ok.frz rfl;have sfB:∀n,sf.getB n=s.getB n:=fun n=>State.getB_apply0 s _ rfl n
  have sfH:∀n,n∉fr.map (·.1)→sf.getH n=s.getH n:=fun n hn=>EX hn
  have lt:∀n h,AL NH n=some h→L≤n∧n<S.st:=fun n h hh=>by
    have:=row.mem _ (row.get hh);rw[hst];exact this
  have small:∀n h,n<L→S.getH n=some h→base.getH n=some h:=fun n h hn hh=>by
    rw[gH]at hh;cases e:AL NH n with
    |none=>rw[e]at hh;exact hh
    |some x=>have:=(lt n x e).1;omega
  have big:∀n h,L≤n→S.getH n=some h→(n,h)∈NH:=fun n h hn hh=>by
    rw[gH]at hh;cases e:AL NH n with
    |none=>rw[e]at hh;have:=(hbH n h hh).1;omega
    |some x=>rw[e]at hh;cases hh;exact row.get e
  have find:∀n h,(n,h)∈NH→∃i o,n=L+i∧os[i]?=some o∧vq P s h o∧h.frozen=false∧σ2 n=o.bind σ:=fun n h hm=>by
    obtain⟨i,o,e1,e2,e3,e4⟩:=ents.find hm;refine⟨i,o,e1,e2,e3,e4,?_⟩;have h1:¬n<L:=by omega
    have h2:n-L=i:=by omega
    simp only[σ2,h1,if_false,h2,e2];cases o<;>rfl
  have sB:∀n e,S.getB n=some e→n<L∧(∃e0,s.getB n=some e0)∧(∀k∈AH e.cs,k<S.st)∧(e.dirty=false→base.getB n=some e):=fun n e hn=>by
    have hw0:∃σ2 S',(∀nw b,StB n0 β σ sf nw b→StB n0 β σ2 S' nw b)∧Wired σ σ2 S' (L+(AP E N cv j L rs).2.length) os2 NH2:=by
      refine⟨fun n=>match os2[n-(L+(AP E N cv j L rs).2.length)]? with|some (some i)=>σ i|_=>none,Ab NH2,fun nw b hb=>⟨fun hm=>?_,hb.2⟩,Xy (fun i o p h1 h2=>⟨?_,?_⟩)⟩
      · rcases hm with⟨k,e,h1,_⟩|⟨k,h,cap,h1,h2,h3⟩
        · cases h1
        obtain⟨i,o,e1,e2,e3,e4⟩:=b2.find (b2.row.get h1);have:k-(L+(AP E N cv j L rs).2.length)=i:=by omega
        simp only[this,e2]at h3;cases o with
        |none=>cases h3
        |some x =>
          obtain⟨h0,q1,q2,q3,q4,q5⟩:=e3;have hx:some x∈os:=by rw[←hos];exact List.mem_append_right _ (List.mem_of_getElem? e2)
          have hxf:x∉fr.map (·.1):=fun hm=>by
            obtain⟨y,hy,e⟩:=List.mem_map.1 hm;exact enc.ap y hy (e▸hx)
          exact hb.1 (.inr ⟨x,h0,cap,by rw[sfH x hxf];exact q1,q4,h3⟩)
      · have:L+(AP E N cv j L rs).2.length+i-(L+(AP E N cv j L rs).2.length)=i:=by omega
        simp only[this,h1];cases o<;>rfl
      have:=b2.row.idx h2;have hm:=List.mem_of_getElem? h2;have:=b2.row.has (n:=p.1) (h:=p.2) hm;rw[b2.row.idx h2]at this;exact this
    obtain⟨σ3,S3,hst3,hw3⟩:=hw0;have hf2:Frz sf fr2:=by rw[←hfr]at frz;exact frz.right
    obtain⟨_,c2⟩:=b6 sf subf hf2 σ3 S3 hst3 hw3
    rcases c2 n e hn with h|⟨h3,⟨cs,h4⟩,h5,h6,h7⟩
    · obtain⟨q1,⟨e',q2,q3⟩,q4⟩:=hbB n e h;exact⟨q1,⟨e',q2⟩,fun k hk=>by have:=q4 k hk;omega,fun _=>h⟩
    refine⟨hsl n cs h4,h5,fun k hk=>?_,fun hd=>by rw[h3]at hd;cases hd⟩;have:=h7 k hk;rw[←b4]at this;exact this
  have inMf:∀b,InM β σ2 S b→InM β σ sf b:=fun b hb=>by
    rcases hb with⟨n,e,h1,h2⟩|⟨n,h,cap,h1,h2,h3⟩
    · obtain⟨_,⟨e0,h4⟩,_⟩:=sB n e h1;exact .inl ⟨n,e0,by rw[sfB];exact h4,h2⟩
    rcases Nat.lt_or_ge n L with hn|hn
    · have hb:=small n h hn h1;obtain ⟨_,h',q1,q2,q3,q4,q5⟩:=hbH n h hb;have hnf:n∉fr.map (·.1):=fun hm=>by
        obtain⟨y,hy,e⟩:=List.mem_map.1 hm;obtain⟨h0,r1,r2⟩:=enc.fz y hy;rw[e,q1]at r1;cases r1
        rcases r2 with r2|r2
        · rw[q5,h2]at r2;cases r2
        exact r2.2.2 (by rw[e];exact List.mem_map.2 ⟨(n,h),aP hb,rfl⟩)
      have:σ2 n=σ n:=by simp only[σ2,hn,if_true]
      exact .inr ⟨n,h',cap,by rw[sfH n hnf];exact q1,by rw[q5];exact h2,by rw[←this];exact h3⟩
    obtain⟨i,o,e1,e2,e3,e4,e5⟩:=find n h (big n h hn h1);rw[e5]at h3;cases o with
    |none=>cases h3
    |some x =>
      obtain⟨h0,q1,q2,q3,q4,q5⟩:=e3;have hx:some x∈os:=List.mem_of_getElem? e2;have hxf:x∉fr.map (·.1):=fun hm=>by
        obtain⟨y,hy,e⟩:=List.mem_map.1 hm;exact enc.ap y hy (e▸hx)
      exact .inr ⟨x,h0,cap,by rw[sfH x hxf];exact q1,q4,h3⟩
  have stf:∀nw b,StB n0 β σ sf nw b→StB n0 β σ2 S nw b:=fun nw b hb=>⟨fun hm=>hb.1 (inMf _ hm),hb.2⟩
  have wired:Wired σ σ2 S L os NH:=Xy (fun i o p h1 h2=>by
    have hidx:=row.idx h2;have hm:=List.mem_of_getElem? h2;refine⟨?_,?_⟩
    · have h3:¬L+i<L:=by omega
      have h4:L+i-L=i:=by omega
      simp only[σ2,h3,if_false,h4,h1];cases o<;>rfl
    rw[gH];have:=row.has (n:=p.1) (h:=p.2) hm;rw[hidx]at this;rw[this])
  have hw1:Wired σ σ2 S L os1 (AP E N cv j L rs).2:=by rw[←hos,←hNH]at wired;exact wired.left a2.len
  have hw2:Wired σ σ2 S (L+(AP E N cv j L rs).2.length) os2 NH2:=by rw[←hos,←hNH]at wired;exact wired.right a2.len
  have hf1:Frz sf fr1:=by rw[←hfr]at frz;exact frz.left
  have hf2:Frz sf fr2:=by rw[←hfr]at frz;exact frz.right
  obtain⟨c1,c2⟩:=b6 sf subf hf2 σ2 S stf hw2;have x:Ext P n0 (fun n=>L≤n) β σ s w β σ2 S w:=by
    refine⟨rfl,rfl,rfl,Nat.le_refl _,fun _ _ _=>.inl rfl,fun b hb=>.inl (subf.inM (inMf b hb)),fun b e he _=>⟨(sB b e he).2.1,rfl⟩,fun n h hh hn=>?_⟩;have hn:n<L:=Nat.lt_of_not_le hn;obtain⟨_,h',q1,q2,q3,q4,q5⟩:=hbH n h (small n h hn hh);exact⟨h',q1,by simp only[σ2,hn,if_true],q2.symm,fun _=>by rw[q3]⟩
  have stS:∀nw b,StB n0 β σ s nw b→StB n0 β σ2 S nw b:=fun nw b hb=>⟨fun hm=>hb.1 (subf.inM (inMf _ hm)),hb.2⟩
  have mem:Mem P n0 β σ2 S w:=by
    refine⟨fun n e he=>?_,fun n h hh=>?_,fun b b' e e' blk h h' hb hb'=>?_,fun n n' h h' blk cap cap' hh hh' h1 h2=>?_,fun b e n h blk cap he hh h1 h2=>?_⟩
    · rcases c2 n e he with h|⟨_,_,_,h6,_⟩
      · obtain⟨q1,⟨e',q2,q3⟩,q4⟩:=hbB n e h;obtain⟨blk,cells,el,r1,r2,r3,r4⟩:=hs.M.B n e' q2;rw[q3]at r3 r4;exact⟨blk,cells,el,r1,r2,x.relCs (fun k hk hL=>by have:=q4 k hk;omega) r3,r4⟩
      exact h6
    · rcases Nat.lt_or_ge n L with hn|hn
      · obtain⟨_,h',q1,q2,q3,q4,q5⟩:=hbH n h (small n h hn hh);exact(hs.M.H n h' q1).view q2.symm q3.symm (by simp only[σ2,hn,if_true]) (fun _ _ _ ho=>by rw[←q4];exact ho) (fun b hb _=>by rw[←q4];exact stS _ b hb)
      obtain⟨i,o,e1,e2,e3,e4,e5⟩:=find n h (big n h hn hh);cases o with
      |none =>
        obtain⟨r1,t,ts,r2,r3⟩:=e3;exact .inl ⟨t,ts,r2,r3,fun y hy=>(by rw[r1]at hy;simp at hy),.inl ⟨e5,r1⟩⟩
      |some y =>
        obtain⟨h0,q1,q2,q3,q4,q5⟩:=e3;exact(hs.M.H y h0 q1).view q2 q3 e5 (fun _ _ _ ho=>ho.mono q5) (fun b hb _=>⟨(stS _ b hb).1,hb.2.mono q5⟩)
    · obtain⟨_,⟨e0,r1⟩,_⟩:=sB b e h;obtain⟨_,⟨e1,r2⟩,_⟩:=sB b' e' h';exact hs.M.uB b b' e0 e1 blk r1 r2 hb hb'
    ·
      have src:∀n h cap,S.getH n=some h→σ2 n=some (blk,cap)→∃y h0,s.getH y=some h0∧σ y=some (blk,cap)∧((n<L∧y=n∧n∈base.hp.map (·.1))∨(L≤n∧os[n-L]?=some (some y))):=fun n h cap hh h1=>by
        rcases Nat.lt_or_ge n L with hn|hn
        · have hb:=small n h hn hh;obtain⟨_,h',q1,_⟩:=hbH n h hb;simp only[σ2,hn,if_true]at h1;exact⟨n,h',q1,h1,.inl ⟨hn,rfl,List.mem_map.2 ⟨(n,h),aP hb,rfl⟩⟩⟩
        obtain⟨i,o,e1,e2,e3,e4,e5⟩:=find n h (big n h hn hh);rw[e5]at h1;cases o with
        |none=>cases h1
        |some y =>
          obtain⟨h0,q1,_⟩:=e3;have:n-L=i:=by omega
          exact⟨y,h0,q1,h1,.inr ⟨hn,by rw[this];exact e2⟩⟩
      obtain⟨y,h0,r1,r2,r3⟩:=src n h cap hh h1;obtain⟨y',h0',r1',r2',r3'⟩:=src n' h' cap' hh' h2;have hy:=hs.M.uH y y' h0 h0' blk cap cap' r1 r1' r2 r2';subst hy
      rcases r3 with⟨g1,g2,g3⟩|⟨g1,g2⟩<;>rcases r3' with⟨k1,k2,k3⟩|⟨k1,k2⟩
      · omega
      · exact((enc.src y (List.mem_of_getElem? k2)).2.2.1 (g2▸g3)).elim
      · exact((enc.src y (List.mem_of_getElem? g2)).2.2.1 (k2▸k3)).elim
      have:=Uv enc.nd g2 k2;omega
    obtain⟨_,⟨e0,r1⟩,_⟩:=sB b e he
    rcases Nat.lt_or_ge n L with hn|hn
    · obtain⟨_,h',q1,_⟩:=hbH n h (small n h hn hh);simp only[σ2,hn,if_true]at h2;exact hs.M.uX b e0 n h' blk cap r1 q1 h1 h2
    obtain⟨i,o,e1,e2,e3,e4,e5⟩:=find n h (big n h hn hh);rw[e5]at h2;cases o with
    |none=>cases h2
    |some y =>
      obtain⟨h0,q1,_⟩:=e3;exact hs.M.uX b e0 y h0 blk cap r1 q1 h1 h2
  have hLst:L≤S.st:=by rw[hst];omega
  refine⟨σ2,S,rfl,a5 sf subf hf1 σ2 S stf hw1,fun n hn=>?_,⟨hs.n0le,hs.size,fun n tv hn=>?_,mem,hs.kept.ext x⟩,x,⟨fun n hn=>⟨⟨fun k e he=>?_,fun k h hh=>?_⟩,fun k tv hk=>?_⟩,fun n tv hn=>?_⟩,hLst,fun n e he hd=>(sB n e he).2.2.2 hd,fun n h hh hd=>?_,fun n e he=>?_,fun n h hn hh=>small n h hn hh⟩
  · have:=a4 n hn;rw[hst,←hNH,List.length_append];omega
  · rcases c1 n tv hn with h|⟨h3,h4,_⟩
    · obtain⟨q1,q2,q3⟩:=hbT n tv h;exact .inl ⟨fun n b hm=>by rw[q1]at hm;simp at hm,x.relAV (fun k hk hL=>by have:=q3 k hk;omega) q2⟩
    exact .inl ⟨fun n b hm=>by rw[h3]at hm;simp at hm,h4⟩
  · obtain⟨r1,_,r3,_⟩:=sB k e he;exact⟨by omega,fun hm=>by have:=r3 n hm;omega⟩
  · rcases Nat.lt_or_ge k L with hk|hk
    · omega
    have:=row.mem _ (big k h hk hh);simp at this;omega
  · rcases c1 k tv hk with h|⟨_,_,h5⟩
    · obtain⟨_,_,q3⟩:=hbT k tv h;intro hm;have:=q3 n hm;omega
    intro hm;have:=h5 n hm;rw[←b4]at this;omega
  · rcases c1 n tv hn with h|⟨h3,_⟩
    · exact(hbT n tv h).1
    exact h3
  · rcases Nat.lt_or_ge n L with hn|hn
    · exact small n h hn hh
    have hm:=big n h hn hh;have:h.dirty=true:=by
      rw[←hNH]at hm;exact(List.mem_append.1 hm).elim (a3 (n,h)) (b3 (n,h))
    rw[this]at hd;cases hd
  rcases c2 n e he with h|⟨_,h4,_⟩
  · exact .inl h
  exact .inr h4
end
def Ms.le (a b:Ms):Prop:=∀n,(a.t.testBit n=true→b.t.testBit n=true)∧(a.r.testBit n=true→b.r.testBit n=true)
theorem Ms.le_refl (a:Ms):a.le a:=fun _=>⟨id,id⟩
theorem Ms.le_trans {a b c:Ms} (h:a.le b) (k:b.le c):a.le c:=fun n=>⟨fun x=>(k n).1 ((h n).1 x),fun x=>(k n).2 ((h n).2 x)⟩
theorem Ms.le_or_left (a b:Ms):a.le (a.or b):=fun n=>⟨fun h=>by simp[Ms.or,Nat.testBit_or,h],fun h=>by simp[Ms.or,Nat.testBit_or,h]⟩
theorem Ms.le_or_right (a b:Ms):b.le (a.or b):=fun n=>⟨fun h=>by simp[Ms.or,Nat.testBit_or,h],fun h=>by simp[Ms.or,Nat.testBit_or,h]⟩
theorem Ms.or_le {a b c:Ms} (h:a.le c) (k:b.le c):(a.or b).le c:=fun n=>by
 simp only[Ms.or,Nat.testBit_or,Bool.or_eq_true];exact⟨fun x=>x.elim (h n).1 (k n).1,fun x=>x.elim (h n).2 (k n).2⟩
def An.at (a:An):Ex→Option Ms
 | .nrm=>a.nrm
 | .ret=>a.ret
 | .ext id=>BR a.exts id
def Wide (o:Option Ms) (m:Ms):Prop:=∃m2,o=some m2∧m.le m2
theorem Wide.of {o:Option Ms} {m m':Ms} (h:o=some m') (k:m.le m'):Wide o m:=⟨m',h,k⟩
theorem Wide.orL {o p:Option Ms} {m:Ms} (h:Wide o m):Wide (YL o p) m:=by
 obtain⟨m2,rfl,h⟩:=h;cases p with
 |none=>exact⟨m2,rfl,h⟩
 |some q=>exact⟨m2.or q,rfl,Ms.le_trans h (Ms.le_or_left _ _)⟩
theorem Wide.orR {o p:Option Ms} {m:Ms} (h:Wide p m):Wide (YL o p) m:=by
 obtain⟨m2,rfl,h⟩:=h;cases o with
 |none=>exact⟨m2,rfl,h⟩
 |some q=>exact⟨q.or m2,rfl,Ms.le_trans h (Ms.le_or_right _ _)⟩
theorem Wide.then {m1:Ms} {o:Option Ms} {m:Ms} (h:Wide o m):Wide (iK m1 o) (m1.or m):=by
 obtain⟨m2,rfl,h⟩:=h;exact⟨m1.or m2,rfl,Ms.or_le (Ms.le_or_left _ _) (Ms.le_trans h (Ms.le_or_right _ _))⟩
theorem dU {l:List (Nat×Ms)} {k j:Nat}:BR (Nh l k) j=if j=k then none else BR l j:=by
 induction l with
 |nil=>simp[Nh,BR]
 |cons x l ih =>
  obtain⟨i,m⟩:=x;simp only[Nh];cases h:Nat.beq i k
  ·have hik:=Bd.1 h;simp only[BR,ih]
   grind
  have:=AG.1 h;subst this;simp only[ih,BR]
  by_cases hj:j=i
  ·simp[hj]
  rw[if_neg hj,if_neg hj,Bd.2 (fun e=>hj e.symm)]
theorem Wide.add {l:List (Nat×Ms)} {k j:Nat} {m x:Ms} (h:Wide (BR l j) m):Wide (BR (W2 l k x) j) m:=by
 unfold W2
 split
 ·rename_i m' hm';simp only[BR]
  split
  ·rename_i he;have:=AG.1 he;subst this;obtain⟨m2,h1,h2⟩:=h;rw[hm']at h1;cases h1;exact⟨_,rfl,Ms.le_trans h2 (Ms.le_or_left _ _)⟩
  rename_i he;rw[dU,if_neg (fun e=>Bd.1 he e.symm)];exact h
 rename_i hn;simp only[BR]
 split
 ·rename_i he;have:=AG.1 he;subst this;obtain⟨m2,h1,h2⟩:=h
  simp_all
 exact h
theorem wI {l:List (Nat×Ms)} {k:Nat} {x:Ms}:Wide (BR (W2 l k x) k) x:=by
 unfold W2
 split
 ·simp only[BR,AG.2 rfl];exact⟨_,rfl,Ms.le_or_right _ _⟩
 simp only[BR,AG.2 rfl];exact⟨_,rfl,Ms.le_refl _⟩
theorem Wide.allR {j:Nat} {m:Ms}:∀{l r:List (Nat×Ms)},Wide (BR r j) m→Wide (BR (TD l r) j) m
 | [],r,h=>h
 |(k,x)::l,r,h=>Wide.allR (l:=l) h.add
theorem Wide.allL {j:Nat} {m:Ms}:∀{l r:List (Nat×Ms)},Wide (BR l j) m→Wide (BR (TD l r) j) m
 | [],r,h=>by obtain⟨m2,h1,_⟩:=h;trivial
 |(k,x)::l,r,h=>by
  simp only[BR]at h;simp only[TD]
  split at h
  ·rename_i he;have:=AG.1 he;subst this;obtain⟨m2,h1,h2⟩:=h;cases h1;refine Wide.allR ?_;obtain⟨m3,h3,h4⟩:=wI (l:=r) (k:=k) (x:=x);exact⟨m3,h3,Ms.le_trans h2 h4⟩
  exact Wide.allL (l:=l) h
theorem Wide.map {j:Nat} {m m1:Ms} {l:List (Nat×Ms)} (h:Wide (BR l j) m):Wide (BR (l.map fun (k,x)=>(k,m1.or x)) j) (m1.or m):=by
 induction l with
 |nil=>obtain⟨m2,h1,_⟩:=h;trivial
 |cons x l ih =>
  obtain⟨k,x⟩:=x;simp only[List.map_cons,BR]at h⊢
  split at h
  ·rename_i he;obtain⟨m2,h1,h2⟩:=h;cases h1;exact⟨_,rfl,Ms.or_le (Ms.le_or_left _ _) (Ms.le_trans h2 (Ms.le_or_right _ _))⟩
  simp_all
theorem Tw:∀{l:List Oper} {n:Nat},n∈Am l→(cR l).testBit n=true
 | [],n,h=>by trivial
 |o::l,n,h=>by
  simp only[Am]at h;simp only[cR,Nat.testBit_or,Bool.or_eq_true];cases hd:o.dst with
  |none=>rw[hd]at h;exact .inr (Tw h)
  |some d =>
   rw[hd]at h
   rcases List.mem_cons.1 h with rfl|h
   ·exact .inl (Gt.2 rfl)
   exact .inr (Tw h)
theorem iU {m n:Nat}:∀{k:Nat} {acc:List Nat},n∈Ox m k acc↔n∈acc∨(m.testBit n=true∧n≤k)
 |0,acc=>by
  simp only[Ox]
  grind
 |k+1,acc=>by
  simp only[Ox];rw[iU]
  grind
theorem iC {m n:Nat} (h:m.testBit n=true):n≤m.log2:=by
 have h1:=Nat.ge_two_pow_of_testBit h;have hm:m≠0:=by grind
 rcases Nat.lt_or_ge m.log2 n with h2|h2
 ·exfalso
  have h3:=(Nat.log2_lt hm).1 h2;omega
 exact h2
theorem NV {m n:Nat}:n∈Ox m (XC m) []↔m.testBit n=true:=by
 rw[iU];constructor
 ·simp_all
 intro h;exact .inr ⟨h,iC h⟩
section
variable {E:Env} {N:Nat} {P:Program} {cfg:Cfg} {n0 n0':Nz} {nt:Nat} {β β':Nat→Option Nat} {σ σ':Nat→Option (Nat×Nat)} {s s' s2:St0 E N} {a a':Act} {w w':World}
theorem mi:∀{l:List Nat} {t:TM (TV (std E N))} {n:Nat} {tv:TV (std E N)},DR (oQ t l) n=some tv→DR t n=some tv∧n∉l
 | [],t,n,tv,h=>⟨h,by simp⟩
 |k::l,t,n,tv,h=>by
  simp only[oQ]at h;obtain⟨h1,h2⟩:=mi h;rw[ER]at h1
  split at h1
  ·cases h1
  rename_i hk;refine⟨h1,fun hm=>?_⟩
  rcases List.mem_cons.1 hm with rfl|hm
  ·by_cases hb:n<Fg
   ·omega
   have:DR t n=none:=by
    unfold DR;cases hx:Nat.blt n Fg
    ·rfl
    exact(hb (A7.1 hx)).elim
   simp_all
  trivial
theorem LF {l:List Nat} {n:Nat} {e:BEnt (std E N)}:AL (O0 s l) n=some e↔s.getB n=some e∧n∉l:=by
 unfold O0;have:=Tb (fun n => !CT n l) s.bx n;rw[this];cases h:CT n l
 ·have:n∉l:=fun hm=>by rw[Cd.2 hm]at h;cases h
  simp[this,State.getB]
 have:=Cd.1 h;simp[this]
theorem LB {l:List Nat} {n:Nat} {e:HEnt (std E N)}:AL (Qh s l) n=some e↔s.getH n=some e∧n∉l:=by
 unfold Qh;have:=Tb (fun n => !CT n l) s.hp n;rw[this];cases h:CT n l
 ·have:n∉l:=fun hm=>by rw[Cd.2 hm]at h;cases h
  simp[this,State.getH]
 have:=Cd.1 h;simp[this]
theorem Xd:∀{l:List (Nat×BEnt (std E N))},RQ s l=true→∀{n:Nat} {e:BEnt (std E N)},AL l n=some e→∃e',s.getB n=some e'∧e'.dirty=false
 | [],_,n,e,h=>by trivial
 |(k,x)::l,hc,n,e,h=>by
  simp only[RQ]at hc
  split at hc
  ·rename_i e' he'
   split at hc
   ·cases hc
   rename_i hd;simp only[AL]at h
   split at h
   ·simp_all
   exact Xd hc h
  cases hc
theorem Ya:∀{l:List (Nat×HEnt (std E N))},Q9 s l=true→∀{n:Nat} {e:HEnt (std E N)},AL l n=some e→∃e',s.getH n=some e'∧e'.dirty=false
 | [],_,n,e,h=>by trivial
 |(k,x)::l,hc,n,e,h=>by
  simp only[Q9]at hc
  split at hc
  ·rename_i e' he'
   split at hc
   ·cases hc
   rename_i hd;simp only[AL]at h
   split at h
   ·simp_all
   exact Ya hc h
  cases hc
theorem LN:∀{l seen:List Nat} {sl:List Slot},LQ cfg s l seen=some sl→(∀b c,Slot.b b c∈sl→b∈l∧∃e,s.getB b=some e)∧∀x∈sl,∃b c,x=Slot.b b c
 | [],seen,sl,h=>by simp only[LQ]at h;simp_all
 |k::l,seen,sl,h=>by
  simp only[LQ]at h
  split at h
  ·obtain⟨h1,h2⟩:=LN h
   grind
  split at h
  ·obtain⟨h1,h2⟩:=LN h
   grind
  rename_i e he
  split at h
  ·rename_i cs r hc hr;cases h;obtain⟨h1,h2⟩:=LN hr
   grind
  cases h
theorem Ov:∀{l:List Nat} {b:Nat} {c:List SlotC},Slot.b b c∉QL cfg s l
 | [],b,c,h=>by trivial
 |n::l,b,c,h=>by
  simp only[QL]at h
  split at h
  ·split at h
   ·rcases List.mem_cons.1 h with e|h
    ·cases e
    exact Ov h
   exact Ov h
  exact Ov h
theorem dQ {m:Ms} {b:Nat}:b∈C9 s m↔∃n,m.r.testBit n=true∧b∈kG s n:=by
 unfold C9 TC;simp only[List.mem_flatten,List.mem_map];constructor
 ·rintro⟨l,⟨n,hn,rfl⟩,hb⟩;exact⟨n,NV.1 hn,hb⟩
 rintro⟨n,hn,hb⟩;exact⟨_,⟨n,NV.2 hn,rfl⟩,hb⟩
theorem sE {m m':Ms} (h:m.le m') {b:Nat} (hb:b∈C9 s m):b∈C9 s m':=by
 obtain⟨n,h1,h2⟩:=dQ.1 hb;exact dQ.2 ⟨n,(h n).2 h1,h2⟩
theorem JJ {e:Ex} {m:Ms} {live:Nat} {x:Way (std E N)} (h:NB cfg s e m live=.ok x):x.e=e∧x.base.st=s.st∧x.base.bx=O0 s (C9 s m)∧x.base.hp=Qh s (Xq s m) ∧
    (∀n tv,x.base.getT n=some tv→s.getT n=some tv∧¬m.t.testBit n=true)∧∀b c,Slot.b b c∈x.slots→b∈C9 s m∧∃e,s.getB b=some e:=by
  unfold NB at h
  split at h
  · cases h
  rename_i sl hl;cases h;refine⟨rfl,rfl,rfl,rfl,fun n tv hn=>?_,fun b c hm=>?_⟩
  · obtain⟨h1,h2⟩:=mi hn;exact⟨h1,fun hb=>h2 (NV.2 hb)⟩
  unfold ww at hl;simp only at hl
  split at hl
  · rename_i l hbx;cases hl
    rcases List.mem_append.1 hm with hm|hm
    · exact(Ov hm).elim
    obtain⟨h1,_⟩:=LN hbx;obtain⟨h2,h3⟩:=h1 b c hm;refine⟨?_,h3⟩;unfold C9
    grind
  cases hl
theorem pN {e:Ex} {m:Ms} {live:Nat} {x:Way (std E N)} (h:NB cfg s e m live=.ok x):x.hs=oq cfg s m:=by
 unfold NB at h
 grind
theorem Ld:∀{l seen:List Nat} {n:Nat},n∈(MT s l seen).map (·.1)→n∈l∧∃h,s.getH n=some h∧h.frozen=false
 | [],_,n,h=>by trivial
 |k::l,seen,n,h=>by
  simp only[MT]at h
  split at h
  ·obtain⟨h1,h2⟩:=Ld h
   simp_all
  split at h
  ·obtain⟨h1,h2⟩:=Ld h
   simp_all
  rename_i h0 hg
  split at h
  ·obtain⟨h1,h2⟩:=Ld h
   simp_all
  rename_i hf;simp only[List.map_cons]at h
  rcases List.mem_cons.1 h with rfl|h
  ·simp_all
  obtain⟨h1,h2⟩:=Ld h
  simp_all
theorem PL {n:Nat} {h0:HEnt (std E N)} (hg:s.getH n=some h0) (hf:h0.frozen=false):∀{l seen:List Nat},n∈l→n∉seen→n∈(MT s l seen).map (·.1)
 | [],_,h,_=>by simp at h
 |k::l,seen,h,hn=>by
  simp only[MT]
  rcases List.mem_cons.1 h with rfl|h
  ·have h1:CT n seen=false:=by
    cases hm:CT n seen
    ·rfl
    exact(hn (Cd.1 hm)).elim
   simp_all
  split
  ·exact PL hg hf h hn
  split
  ·exact PL hg hf h hn
  rename_i h1 hk
  split
  ·exact PL hg hf h hn
  simp only[List.map_cons]
  by_cases e:n=k
  ·simp_all
  exact zzm _ (PL hg hf h (fun hm=>(List.mem_cons.1 hm).elim e hn))
theorem lr:∀{l:List Nat} {n id:Nat},n∈l→id∈ke s n→id∈oE s l
 |k::l,n,id,hn,hi=>by
  simp only[oE,List.mem_append]
  rcases List.mem_cons.1 hn with rfl|hn
  ·refine .inl ?_;unfold ke at hi
   split at hi
   ·rename_i gs e i h;rw[h];trivial
   trivial
  exact .inr (lr hn hi)
theorem wc {m m':Ms} (h:m.le m') {n:Nat} (hn:n∈(oq cfg s m).map (·.1)):n∈Xq s m':=by
 obtain⟨h1,h0,h2,h3⟩:=Ld hn;unfold Xq
 rcases List.mem_append.1 h1 with h1|h1
 ·refine List.mem_append_right _ (PL h2 h3 ?_ (by simp));simp only[List.mem_flatten,List.mem_map]at h1⊢;obtain⟨q,⟨k,hk,rfl⟩,hq⟩:=h1;exact⟨_,⟨k,NV.2 ((h k).2 (NV.1 hk)),rfl⟩,hq⟩
 refine List.mem_append_left _ ?_;unfold AAM at h1
 split at h1
 ·simp only[List.mem_flatten,List.mem_map]at h1;obtain⟨q,⟨k,hk,rfl⟩,hq⟩:=h1;have hk:=(List.mem_filter.1 hk).1;unfold cA;refine List.mem_append_left _ (lr (n:=k) ?_ hq);refine NV.2 ?_;rw[Nat.testBit_or,(h k).2 (NV.1 hk),Bool.or_true]
 trivial
end
section
variable {E:Env} {N:Nat} {P:Program} {cfg:Cfg} {n0 n0':Nz} {nt:Nat} {β β':Nat→Option Nat} {σ σ':Nat→Option (Nat×Nat)} {s s' s2:St0 E N} {a a':Act} {w w':World}
theorem Z3 {n:Nat}:(cleaned s).getB n=(s.getB n).map fun e=>{ e with dirty:=false }:=by
 show AL (s.bx.map fun (n,e)=>(n,{ e with dirty:=false })) n=_;exact VP (fun e:BEnt (std E N)=>{ e with dirty:=false }) s.bx n
theorem U6 {n:Nat}:(cleaned s).getH n=(s.getH n).map fun e=>{ e with dirty:=false }:=by
 show AL (s.hp.map fun (n,e)=>(n,{ e with dirty:=false })) n=_;exact VP (fun e:HEnt (std E N)=>{ e with dirty:=false }) s.hp n
theorem Hf:Sub s (cleaned s) where
 b n e h:=by
  rw[Z3]at h;obtain⟨e0,h0,rfl⟩:=zzo.1 h;exact⟨e0,h0,rfl⟩
 h n e h:=by
  rw[U6]at h;obtain⟨e0,h0,rfl⟩:=zzo.1 h;exact⟨e0,h0,rfl,rfl,rfl,fun h=>h⟩
theorem Sim.cleaned (hs:Sim P n0 nt β σ s a w):Sim P n0 nt β σ (cleaned s) a w :=
 ⟨hs.n0le,hs.size,fun n tv hn=>by
  rcases hs.T n tv hn with⟨h1,h2⟩|h1
  ·exact .inl ⟨h1,(Hf.ext P n0 (fun _=>False) β σ w).relAV (fun _ _ h=>h) h2⟩
  exact .inr h1,Hf.mem hs.M,hs.kept.ext (Hf.ext P n0 (fun _=>False) β σ w)⟩
theorem WF.cleaned (h:WF s):WF (cleaned s) :=
 ⟨fun n hn=>⟨⟨fun k e he=>by
  obtain⟨e0,h0,hc⟩:=Hf.b k e he;have:=(h.fresh n hn).1.1 k e0 h0;exact⟨this.1,by rw[hc];exact this.2⟩,fun k e he=>by
  obtain⟨e0,h0,_⟩:=Hf.h k e he;exact(h.fresh n hn).1.2 k e0 h0⟩,(h.fresh n hn).2⟩,h.gs⟩
structure Since (P:Program) (n0:Nz) (nt:Nat) (m:Ms) (β:Nat→Option Nat) (σ:Nat→Option (Nat×Nat)) (s:St0 E N) (a:Act) (w:World) (β':Nat→Option Nat) (σ':Nat→Option (Nat×Nat)) (s':St0 E N) (a':Act) (w':World):Prop where
 sim:Sim P n0 nt β' σ' s' a' w'
 ext:Ext P n0 (fun n=>s.st≤n) β σ s w β' σ' s' w'
 tmps:∀n,¬m.t.testBit n=true→a'.tmps.getD n undef=a.tmps.getD n undef
 defers:a'.defers=a.defers
 B:∀n e e',s.getB n=some e→n∉C9 s m→s'.getB n=some e'→e'.dirty=false→e'.cs=e.cs
 H:∀n e e',s.getH n=some e→n∉Xq s m→s'.getH n=some e'→e'.dirty=false→e'.e=e.e∧e'.l=e.l∧e'.nw=e.nw∧e'.frozen=e.frozen
theorem Post.since {m:Ms} (h:Post P n0 nt s.st (fun n=>m.t.testBit n=true) β σ (cleaned s) a w β' σ' s' a' w'):Since P n0 nt m β σ s a w β' σ' s' a' w' where
 sim:=h.sim
 ext:=((Hf.ext P n0 (fun _=>False) β σ w).trans h.ext).weaken (fun n h=>h.elim (fun h=>h.elim) (fun h=>h))
 tmps:=h.tmps
 defers:=h.defers
 B n e e' h1 _ h2 h3:=by
  have:=h.cleanB n e' h2 h3;rw[Z3,h1]at this;cases this;rfl
 H n e e' h1 _ h2 h3:=by
  have:=h.cleanH n e' h2 h3;rw[U6,h1]at this;cases this;exact⟨rfl,rfl,rfl,rfl⟩
theorem Post.keptH {L:Nat} {D:Nat→Prop} (h:Post P n0 nt L D β σ (cleaned s) a w β' σ' s' a' w') {n:Nat} {e e':HEnt (std E N)} (h1:s.getH n=some e) (h2:s'.getH n=some e') (h3:e'.dirty=false):e'.e=e.e∧e'.l=e.l∧e'.nw=e.nw∧e'.frozen=e.frozen:=by
 have:=h.cleanH n e' h2 h3;rw[U6,h1]at this;cases this;exact⟨rfl,rfl,rfl,rfl⟩
theorem Since.weaken {m m':Ms} (h:Since P n0 nt m β σ s a w β' σ' s' a' w') (hle:∀ n,m.t.testBit n=true→m'.t.testBit n=true) (hB:∀ n,n∈C9 s m→n∈C9 s m') (hH:∀ n,n∈Xq s m→n∈Xq s m') :
    Since P n0 nt m' β σ s a w β' σ' s' a' w' :=
  ⟨h.sim,h.ext,fun n hn=>h.tmps n (fun k=>hn (hle n k)),h.defers,fun n e e' h1 h2=>h.B n e e' h1 (fun k=>h2 (hB n k)),fun n e e' h1 h2=>h.H n e e' h1 (fun k=>h2 (hH n k))⟩
theorem ox:∀{hs:List (Nat×TypeId×Bool)} {a:List AQ},aZ (O:=std E N) s' hs=.ok a→a.length=hs.length
 | [],a,h=>by simp only[aZ]at h;cases h;rfl
 |(k,e,nw)::r,a,h=>by
  simp only[aZ]at h
  split at h
  ·cases h
  split at h
  ·cases h
  split at h
  ·rename_i ls hls;cases h;rw[List.length_cons,List.length_cons,ox hls]
  cases h
theorem rO:∀ {hs:List (Nat×TypeId×Bool)} {a:List AQ},aZ (O:=std E N) s' hs=.ok a→∀ {cv:List PV} {j:Nat},Holds cv j a→∀ {n:Nat} {h:HEnt (std E N)},AL (QP (O:=std E N) cv j hs) n=some h →
    n∈hs.map (·.1)∧h.dirty=true∧∃h',s'.getH n=some h'∧h'.e=h.e∧h'.l=h.l∧h'.nw=h.nw∧h'.frozen=h.frozen
  | [],a,_,cv,j,_,n,h,hh=>by simp[QP,AL]at hh
  |(k,e,nw)::r,a,henc,cv,j,hc,n,h,hh=>by
    simp only[aZ]at henc
    split at henc
    · cases henc
    rename_i h0 hg
    split at henc
    · cases henc
    rename_i hb
    split at henc
    case h_2=>cases henc
    rename_i ls hls;cases henc;simp only[QP,AL]at hh
    split at hh
    · rename_i hk;have:=AG.1 hk;subst this;cases hh;simp only[zzj,Bool.not_eq_true',beq_iff_eq]at hb;refine⟨zzl,rfl,h0,hg,AG.1 hb.1,?_,hb.2.2,hb.2.1⟩;show h0.l=pvL (AA cv j);rw[hc.head];rfl
    obtain⟨h1,h2⟩:=rO hls hc.tail hh;exact⟨zzm _ h1,h2⟩
theorem pX {cv:List PV}:∀{hs:List (Nat×TypeId×Bool)} {j:Nat},(QP (O:=std E N) cv j hs).map (·.1)=hs.map (·.1)
 | [],_=>rfl
 |(k,e,nw)::r,j=>by simp only[QP,List.map_cons,pX]
theorem vI {x:Way (std E N)} {cv:List PV} {j:Nat}:(x.baseC cv j).hp.map (·.1)=x.keep:=by
 unfold Way.baseC Way.keep;simp only[List.map_append,pX]
theorem AAs {x:Way (std E N)} {ls:List AQ} (h:x.encL s'=.ok ls):∃a b,aZ (O:=std E N) s' x.hs=.ok a∧I8 (O:=std E N) s' x.keep [] x.slots=.ok b∧ls=a++b:=by
 unfold Way.encL at h
 split at h
 ·cases h
 rename_i a ha
 split at h
 ·cases h
 rename_i b hb;cases h;exact⟨a,b,ha,hb,rfl⟩
theorem Zy {x:Way (std E N)} {cv:List PV} {j n:Nat} {h:HEnt (std E N)} (hg:(x.baseC cv j).getH n=some h):AL (QP (O:=std E N) cv j x.hs) n=some h∨AL x.base.hp n=some h:=by
 have hg:AL (QP (O:=std E N) cv j x.hs++x.base.hp) n=some h:=hg;rw[IJ]at hg;cases e:AL (QP (O:=std E N) cv j x.hs) n with
 |some y=>rw[e]at hg;exact .inl hg
 |none=>rw[e]at hg;exact .inr hg
theorem jt {cv:List PV}:∀{hs:List (Nat×TypeId×Bool)} {j n:Nat} {h:HEnt (std E N)},AL (QP (O:=std E N) cv j hs) n=some h→n∈hs.map (·.1)∧h.dirty=true
 | [],j,n,h,hh=>by simp[QP,AL]at hh
 |(k,e,nw)::r,j,n,h,hh=>by
  simp only[QP,AL]at hh
  split at hh
  ·rename_i hk;have:=AG.1 hk;subst this;cases hh;exact⟨zzl,rfl⟩
  obtain⟨h1,h2⟩:=jt hh;exact⟨zzm _ h1,h2⟩
theorem f6 (hs:Sim P n0 nt β σ s a w) (wf:WF s) {e:Ex} {m:Ms} {live:Nat} {x:Way (std E N)} (hx:NB cfg s e m live=.ok x) (h:Since P n0 nt m β σ s a w β' σ' s' a' w')
    (hcB:∀n e,AL x.base.bx n=some e→∃e',s'.getB n=some e'∧e'.cs=e.cs) (hcH:∀n e,AL x.base.hp n=some e→∃e',s'.getH n=some e'∧e'.e=e.e∧e'.l=e.l∧e'.nw=e.nw∧e'.frozen=e.frozen)
    {ls:List AQ} (hL:x.encL s'=.ok ls) {cv:List PV} {j:Nat} (hcv:Holds cv j ls) :
    ∃σ2,Joined P n0 nt s.st β' σ' s' a' w' (x.baseC cv j) x.slots (Bk (O:=std E N) cv (j+x.hs.length) x.base.st x.slots (x.baseC cv j)) σ2:=by
  obtain⟨h1,h2,h3,h4,h5,h6⟩:=JJ hx;obtain⟨la,lb,hea,heb,rfl⟩:=AAs hL;have hlen:=ox hea;have hcvb:Holds cv (j+x.hs.length) lb:=by rw[←hlen];exact hcv.right
  generalize hjj:j+x.hs.length=j2 at *
  suffices hh:∃ (σ2:Nat→Option (Nat×Nat)) (S:St0 E N),S=Bk (O:=std E N) cv (j2+([]:List SlotC).length) (s.st+(AP E N cv j2 s.st []).2.length) x.slots { x.baseC cv j with hp:=(AP E N cv j2 s.st []).2++(x.baseC cv j).hp } ∧
      RelCs P n0 β' σ2 S w' (AP E N cv j2 s.st []).1 []∧(∀n∈AH (AP E N cv j2 s.st []).1,n<S.st)∧Joined P n0 nt s.st β' σ' s' a' w' (x.baseC cv j) x.slots S σ2 by
    obtain⟨σ2,S,hS,_,_,hj⟩:=hh;refine⟨σ2,?_⟩;have:Bk (O:=std E N) cv j2 x.base.st x.slots (x.baseC cv j)=S:=by
      rw[hS];show Bk (O:=std E N) cv j2 x.base.st x.slots (x.baseC cv j)=Bk cv j2 s.st x.slots (x.baseC cv j);rw[h2]
    rw[this];exact hj
  refine zy (L:=s.st) (base:=x.baseC cv j) (rs:=[]) (cs:=[]) (vals:=[]) h.sim (fun n tv hn=>?_) (fun n e he=>?_) (fun n e he=>?_) trivial (fun b c hm=>?_) (used:=[]) (ls1:=[]) rfl (by rw[vI];exact heb) (cv:=cv) (j:=j2) (by simpa using hcvb)
  · obtain⟨g1,g2⟩:=h5 n tv hn;have hlt:∀k∈tv.v.names,k<s.st:=fun k hk=>Nat.lt_of_not_le (fun hle=>(wf.fresh k hle).2 n tv g1 hk)
    refine⟨wf.gs n tv g1,?_,hlt⟩;rw[h.tmps n g2]
    rcases hs.T n tv g1 with⟨_,q⟩|⟨q,_⟩
    · exact h.ext.relAV (fun k hk hn=>by have:=hlt k hk;omega) q
    exact(q (fun n b hm=>by rw[wf.gs _ tv g1]at hm;simp at hm)).elim
  · have he':AL x.base.bx n=some e:=he;have g3:=hcB n e he';rw[h3]at he';obtain⟨g1,g2⟩:=LF.1 he';exact⟨Nat.lt_of_not_le (fun hle=>((wf.fresh n hle).1.1 n e g1).1 rfl),g3,fun k hk=>Nat.lt_of_not_le (fun hle=>((wf.fresh k hle).1.1 n e g1).2 hk)⟩
  · rcases Zy he with he'|he'
    · obtain⟨q1,_,q2⟩:=rO hea hcv.left he';rw[pN hx]at q1;obtain⟨_,h0,q3,_⟩:=Ld q1;exact⟨Nat.lt_of_not_le (fun hle=>(wf.fresh n hle).1.2 n h0 q3 rfl),q2⟩
    have g3:=hcH n e he';rw[h4]at he';obtain⟨g1,g2⟩:=LB.1 he';exact⟨Nat.lt_of_not_le (fun hle=>(wf.fresh n hle).1.2 n e g1 rfl),g3⟩
  obtain⟨_,e,he⟩:=h6 b c hm;exact Nat.lt_of_not_le (fun hle=>((wf.fresh b hle).1.1 b e he).1 rfl)
theorem Since.kept {e:Ex} {m:Ms} {live:Nat} {x:Way (std E N)} (hx:NB cfg s e m live=.ok x) (h:Since P n0 nt m β σ s a w β' σ' s' a' w') (hcB:RQ s' x.base.bx=true) (hcH:Q9 s' x.base.hp=true) :
    (∀n e,AL x.base.bx n=some e→∃e',s'.getB n=some e'∧e'.cs=e.cs)∧(∀n e,AL x.base.hp n=some e→∃e',s'.getH n=some e'∧e'.e=e.e∧e'.l=e.l∧e'.nw=e.nw∧e'.frozen=e.frozen):=by
  obtain⟨h1,h2,h3,h4,h5,h6⟩:=JJ hx;refine⟨fun n e he'=>?_,fun n e he'=>?_⟩
  · obtain⟨e',g3,g4⟩:=Xd hcB he';rw[h3]at he';obtain⟨g1,g2⟩:=LF.1 he';exact⟨e',g3,h.B n e e' g1 g2 g3 g4⟩
  obtain⟨e',g3,g4⟩:=Ya hcH he';rw[h4]at he';obtain⟨g1,g2⟩:=LB.1 he';exact⟨e',g3,h.H n e e' g1 g2 g3 g4⟩
theorem Joined.post {e:Ex} {m:Ms} {live:Nat} {x:Way (std E N)} {S:St0 E N} {σ2:Nat→Option (Nat×Nat)} {cv:List PV} {j:Nat} (hx:NB cfg s e m live=.ok x) (h:Since P n0 nt m β σ s a w β' σ' s' a' w')
    (hj:Joined P n0 nt s.st β' σ' s' a' w' (x.baseC cv j) x.slots S σ2):Post P n0 nt s.st (fun n=>m.t.testBit n=true) β σ s a w β' σ2 S a' w':=by
  obtain⟨h1,h2,h3,h4,h5,h6⟩:=JJ hx;refine⟨hj.sim,(h.ext.trans hj.ext).weaken (fun n h=>h.elim id id),fun n e he hd=>?_,fun n e he hd=>?_,h.defers,h.tmps⟩
  · have:=hj.cleanB n e he hd;have he':AL x.base.bx n=some e:=this;rw[h3]at he';exact(LF.1 he').1
  rcases Zy (hj.cleanH n e he hd)with he'|he'
  · rw[(jt he').2]at hd;cases hd
  rw[h4]at he';exact(LB.1 he').1
theorem qY {a b:Ex}:yv a b=true↔a=b:=by
 cases a<;>cases b<;>simp[yv]
theorem aA {tagged:Bool} {ex:Ex} {c0:List PV}:∀ {ws:List (Way (std E N))} {i:Nat},Lw (O:=std E N) tagged ex s' i ws=some c0 →
    ∃(k:Nat) (x:Way (std E N)),ws[k]?=some x∧x.e=ex∧(∀(j:Nat) (y:Way (std E N)),j<k→ws[j]?=some y→y.e≠ex)∧x.enc (match tagged with|true=>some (i+k)|false=>none) s'=some c0
  | [],i,h=>by cases h
  |x::ws,i,h=>by
    simp only[Lw]at h
    split at h
    · rename_i he;exact⟨0,x,rfl,(qY.1 he).symm,fun j y hj=>by omega,h⟩
    rename_i he;obtain⟨k,y,h1,h2,h3,h4⟩:=aA h;refine⟨k+1,y,by simpa using h1,h2,fun j z hj hz=>?_,by rw[show i+(k+1)=i+1+k by omega];exact h4⟩;cases j with
    |zero=>simp at hz;subst hz;intro e;rw[qY.2 e.symm]at he;cases he
    |succ j=>exact h3 j z (by omega) (by simpa using hz)
def ABC (tag:Option Nat) (l:List PV):List PV:=match tag with
 |some t=>.int t::l
 |none=>l
theorem yE {x:Way (std E N)} {tag:Option Nat} {c0:List PV} (h:x.enc tag s'=some c0):RQ s' x.base.bx=true∧Q9 s' x.base.hp=true∧∃ ls,x.encL s'=.ok ls ∧
    c0=ABC tag (ls.map Leaf.pv):=by
  unfold Way.enc at h
  split at h
  · rename_i h1 h2
    split at h
    · rename_i ls hl;refine⟨h1,h2,ls,hl,?_⟩;cases tag with
      |none=>exact(Option.some.inj h).symm
      |some t=>exact(Option.some.inj h).symm
    cases h
  cases h
theorem dn {c0:List PV} {k:Ex→St0 E N→Option (List PV)} {r:List PV} {x:Way (std E N)} {t:List PV}:∀{ws:List (Way (std E N))} {i n:Nat},NT (O:=std E N) c0 k true i ws=some r→c0=PV.int (i+n:Nat)::t→ws[n]?=some x→k x.e (x.dec true c0)=some r
 | [],i,n,h,_,hx=>by simp at hx
 | [y],i,n,h,hc,hx=>by
  cases n with
  |zero=>simp at hx;subst hx;exact h
  |succ n=>simp at hx
 |y::z::ws,i,n,h,hc,hx=>by
  have h':(cond (pvI (AA c0 0)==((i:Nat):Int)) (k y.e (y.dec true c0)) (NT (O:=std E N) c0 k true (i+1) (z::ws)))=some r:=h;have hp:pvI (AA c0 0)=((i+n:Nat):Int):=by rw[hc];rfl
  rw[hp]at h';cases n with
  |zero=>simp at hx;subst hx;simpa using h'
  |succ n =>
   have:(((i+(n+1):Nat):Int)==((i:Nat):Int))=false:=by simp;omega
   rw[this]at h';exact dn (i:=i+1) (n:=n) h' (by rw[hc];congr 2;omega) (by simpa using hx)
theorem vT {A:An} {lv:Lv} {ws:List (Way (std E N))} (h:Wc cfg s A lv=.ok ws) {k:Nat} {x:Way (std E N)} (hx:ws[k]?=some x) (hfst:∀ (j:Nat) (y:Way (std E N)),j<k→ws[j]?=some y→y.e≠x.e) :
    ∃m,A.at x.e=some m∧NB cfg s x.e m (lv.of x.e)=.ok x:=by
  unfold Wc at h;have hone:∀ (e:Ex) (o:Option Ms) (l:List (Way (std E N))),Za cfg s lv e o=.ok l →
      (o=none∧l=[])∨∃m y,o=some m∧l=[y]∧NB cfg s e m (lv.of e)=.ok y:=fun e o l h=>by
    cases o with
    |none=>cases h;exact .inl ⟨rfl,rfl⟩
    |some m =>
      simp only[Za]at h
      split at h
      · rename_i y hy;cases h;exact .inr ⟨m,y,rfl,rfl,hy⟩
      cases h
  have hexts:∀ (l:List (Nat×Ms)) (z:List (Way (std E N))),Ws cfg s lv l=.ok z →
      ∀(k:Nat) (x:Way (std E N)),z[k]?=some x→(∀(j:Nat) (y:Way (std E N)),j<k→z[j]?=some y→y.e≠x.e)→∃id m,x.e=.ext id∧BR l id=some m∧NB cfg s x.e m (lv.of x.e)=.ok x:=fun l=>by
    induction l with
    |nil=>intro z h k x hx;simp only[Ws]at h;cases h;simp at hx
    |cons p l ih =>
      obtain⟨id,m⟩:=p;intro z h k x hx hf;simp only[Ws]at h
      split at h
      · rename_i a b ha hb;cases h
        rcases hone (.ext id) (some m) a ha with⟨h1,_⟩|⟨m',y,h1,h2,h3⟩
        · cases h1
        cases h1;subst h2;have hye:=(JJ h3).1;cases k with
        |zero =>
          simp at hx;subst hx;exact⟨id,m,hye,by simp only[BR,AG.2 rfl],by rw[hye];exact h3⟩
        |succ k =>
          obtain⟨id',m',q1,q2,q3⟩:=ih b hb k x (by simpa using hx) (fun j y' hj hy=>hf (j+1) y' (by omega) (by simpa using hy));refine⟨id',m',q1,?_,q3⟩;have hne:=hf 0 y (by omega) rfl;rw[hye,q1]at hne;simp only[BR];rw[Bd.2 (fun e=>hne (by rw[e]))];exact q2
      · cases h
      cases h
  split at h
  · rename_i x0 y0 z0 hx0 hy0 hz0;cases h
    rcases hone .nrm A.nrm x0 hx0 with⟨a1,a2⟩|⟨m1,y1,a1,a2,a3⟩<;>rcases hone .ret A.ret y0 hy0 with⟨b1,b2⟩|⟨m2,y2,b1,b2,b3⟩
    · subst a2;subst b2;obtain⟨id,m,q1,q2,q3⟩:=hexts _ _ hz0 k x (by simpa using hx) (fun j y hj hy=>hfst j y hj (by simpa using hy));exact⟨m,by rw[q1];exact q2,q3⟩
    · subst a2;subst b2;have hye:=(JJ b3).1;cases k with
      |zero=>simp at hx;subst hx;exact⟨m2,by rw[hye];exact b1,by rw[hye];exact b3⟩
      |succ k =>
        obtain⟨id,m,q1,q2,q3⟩:=hexts _ _ hz0 k x (by simpa using hx) (fun j y hj hy=>hfst (j+1) y (by omega) (by simpa using hy));exact⟨m,by rw[q1];exact q2,q3⟩
    · subst a2;subst b2;have hye:=(JJ a3).1;cases k with
      |zero=>simp at hx;subst hx;exact⟨m1,by rw[hye];exact a1,by rw[hye];exact a3⟩
      |succ k =>
        obtain⟨id,m,q1,q2,q3⟩:=hexts _ _ hz0 k x (by simpa using hx) (fun j y hj hy=>hfst (j+1) y (by omega) (by simpa using hy));exact⟨m,by rw[q1];exact q2,q3⟩
    subst a2;subst b2;have hye:=(JJ a3).1;have hye2:=(JJ b3).1
    match k with
    |0=>simp at hx;subst hx;exact⟨m1,by rw[hye];exact a1,by rw[hye];exact a3⟩
    |1=>simp at hx;subst hx;exact⟨m2,by rw[hye2];exact b1,by rw[hye2];exact b3⟩
    |k+2 =>
      obtain⟨id,m,q1,q2,q3⟩:=hexts _ _ hz0 k x (by simpa using hx) (fun j y hj hy=>hfst (j+2) y (by omega) (by simpa using hy));exact⟨m,by rw[q1];exact q2,q3⟩
  · cases h
  · cases h
  cases h
theorem Rd {pre:List PV} {ls:List AQ}:Holds (pre++ls.map Leaf.pv) pre.length ls:=fun i l hl=>by
 unfold AA;rw[zzk,List.getElem?_append_right (by omega)];rw[show pre.length+i-pre.length=i by omega,List.getElem?_map,hl];rfl
theorem leave (hs:Sim P n0 nt β σ s a w) (wf:WF s) {A:An} {lv:Lv} {ws:List (Way (std E N))} (hws:Wc cfg s A lv=.ok ws) {ex:Ex} {c0 r:List PV} {k:Ex→St0 E N→Option (List PV)} (h1:Lw (O:=std E N) (Nat.blt 1 ws.length) ex s' 0 ws=some c0)
    (h2:NT (O:=std E N) c0 k (Nat.blt 1 ws.length) 0 ws=some r) :
    ∃m,A.at ex=some m∧(Since P n0 nt m β σ s a w β' σ' s' a' w'→∃S σ2,k ex S=some r∧Post P n0 nt s.st (fun n=>m.t.testBit n=true) β σ s a w β' σ2 S a' w'∧WF S∧s.st≤S.st):=by
  obtain⟨i,x,g1,g2,g3,g4⟩:=aA h1;subst g2;obtain⟨m,q1,q2⟩:=vT hws g1 g3;refine⟨m,q1,fun hsince=>?_⟩;cases ht:Nat.blt 1 ws.length
  · rw [ht] at h2 g4;obtain ⟨e1,e2,ls,e3,e4⟩:=yE g4;have e4:c0=ls.map Leaf.pv:=e4;have hlen:ws.length≤1:=by
      rcases Nat.lt_or_ge 1 ws.length with h|h
      · rw[A7.2 h]at ht;cases ht
      exact h
    have hi:=(List.getElem?_eq_some_iff.1 g1).1;obtain⟨y,rfl⟩:∃y,ws=[y]:=by
      match ws,hlen,hi with
      | [y],_,_=>exact⟨y,rfl⟩
    have:i=0:=by simp at hi;exact hi
    subst this;simp at g1;subst g1;have hk:k y.e (y.dec false c0)=some r:=h2;obtain⟨σ2,hj⟩:=f6 hs wf q2 hsince (hsince.kept q2 e1 e2).1 (hsince.kept q2 e1 e2).2 e3 (cv:=c0) (j:=0) (by rw[e4];exact Rd (pre:=[]));exact⟨_,σ2,hk,hj.post q2 hsince,hj.wf,hj.st⟩
  rw[ht]at h2 g4;obtain⟨e1,e2,ls,e3,e4⟩:=yE g4;have e4:c0=PV.int ((0+i:Nat):Int)::ls.map Leaf.pv:=e4;have hk:=dn h2 e4 g1;obtain⟨σ2,hj⟩:=f6 hs wf q2 hsince (hsince.kept q2 e1 e2).1 (hsince.kept q2 e1 e2).2 e3 (cv:=c0) (j:=1) (by rw[e4];exact Rd (pre:=[PV.int ((0+i:Nat):Int)]));exact⟨_,σ2,hk,hj.post q2 hsince,hj.wf,hj.st⟩
end
def gj:Ex→Exit
 | .nrm=>.normal
 | .ext id=>.exit id
 | .ret=>.ret
abbrev Run (E:Env) (N:Nat):=Code→Bool→Lv→St0 E N→(Ex→St0 E N→Option (List PV))→Option (List PV)
def Arr {E:Env} {N:Nat} (P:Program) (n0:Nz) (nt:Nat) (A:An) (β:Nat→Option Nat) (σ:Nat→Option (Nat×Nat)) (s:St0 E N) (a:Act) (w:World) (k:Ex→St0 E N→Option (List PV)) (r:List PV) (Q:Exit→Act→World→Prop):Prop :=
 ∀(ex:Ex) (s':St0 E N) (β':Nat→Option Nat) (σ':Nat→Option (Nat×Nat)) (a':Act) (w':World),k ex s'=some r→∀m,A.at ex=some m→Post P n0 nt s.st (fun n=>m.t.testBit n=true) β σ s a w β' σ' s' a' w'→WF s'→s.st≤s'.st→Q (gj ex) a' w'
def sF {E:Env} {N:Nat} (P:Program) (R:Run E N):Prop :=
 ∀(n0:Nz) (nt:Nat) (c:Code),DK nt c=true→∀(light:Bool) (lv:Lv) (s:St0 E N) (k:Ex→St0 E N→Option (List PV)) (r:List PV) (β:Nat→Option Nat) (σ:Nat→Option (Nat×Nat)) (a:Act) (w:World) (Q:Exit→Act→World→Prop),
  R c light lv s k=some r→Sim P n0 nt β σ s a w→WF s→Arr P n0 nt (an P c) β σ s a w k r Q→c.wp P Q a w
section
variable {E:Env} {N:Nat} {P:Program} {cfg:Cfg} {n0 n0':Nz} {nt:Nat} {β β':Nat→Option Nat} {σ σ':Nat→Option (Nat×Nat)} {s s' s2:St0 E N} {a a':Act} {w w':World}
theorem Post.wide {L:Nat} {D D':Nat→Prop} (h:Post P n0 nt L D β σ s a w β' σ' s' a' w') (hd:∀n,D n→D' n):Post P n0 nt L D' β σ s a w β' σ' s' a' w' :=
 ⟨h.sim,h.ext,h.cleanB,h.cleanH,h.defers,fun n hn=>h.tmps n (fun k=>hn (hd n k))⟩
theorem Post.refl (hs:Sim P n0 nt β σ s a w) {L:Nat} {D:Nat→Prop}:Post P n0 nt L D β σ s a w β σ s a w :=
 ⟨hs,Ext.refl _ _ _ _ _ _ _,fun n e h _=>h,fun n e h _=>h,rfl,fun _ _=>rfl⟩
theorem rF {x y:Code} {ex:Ex} {m:Ms} (hne:ex≠.nrm) (h:(an P x).at ex=some m):Wide ((an P (.seq x y)).at ex) m:=by
 simp only[an];generalize an P x=A at h⊢;obtain⟨n,r,e⟩:=A;cases n with
 |none=>cases ex<;>first|exact(hne rfl).elim|exact⟨m,h,Ms.le_refl _⟩
 |some m1 =>
  generalize an P y=B;obtain⟨n',r',e'⟩:=B;cases ex with
  |nrm=>exact(hne rfl).elim
  |ret=>exact Wide.orL ⟨m,h,Ms.le_refl _⟩
  |ext id=>exact Wide.allR ⟨m,h,Ms.le_refl _⟩
theorem yc {x y:Code} {ex:Ex} {m m':Ms} (h:(an P x).at .nrm=some m) (k:(an P y).at ex=some m'):Wide ((an P (.seq x y)).at ex) (m.or m'):=by
 simp only[an];generalize an P x=A at h⊢;obtain⟨n,r,e⟩:=A;have h:n=some m:=h;subst h;generalize an P y=B at k⊢;obtain⟨n',r',e'⟩:=B;cases ex with
 |nrm=>exact Wide.then (o:=n') ⟨m',k,Ms.le_refl _⟩
 |ret=>exact Wide.orR (Wide.then (o:=r') ⟨m',k,Ms.le_refl _⟩)
 |ext id=>exact Wide.allL (Wide.map (l:=e') ⟨m',k,Ms.le_refl _⟩)
theorem nC {c:Operand} {x y:Code} {ex:Ex} {m:Ms} (h:(an P x).at ex=some m):Wide ((an P (.cond c x y)).at ex) m:=by
 simp only[an];generalize an P x=A at h⊢;generalize an P y=B;obtain⟨n,r,e⟩:=A;obtain⟨n',r',e'⟩:=B;cases ex with
 |nrm=>exact Wide.orL ⟨m,h,Ms.le_refl _⟩
 |ret=>exact Wide.orL ⟨m,h,Ms.le_refl _⟩
 |ext id=>exact Wide.allL (l:=e) ⟨m,h,Ms.le_refl _⟩
theorem mu {c:Operand} {x y:Code} {ex:Ex} {m:Ms} (h:(an P y).at ex=some m):Wide ((an P (.cond c x y)).at ex) m:=by
 simp only[an];generalize an P x=A;generalize an P y=B at h⊢;obtain⟨n,r,e⟩:=A;obtain⟨n',r',e'⟩:=B;cases ex with
 |nrm=>exact Wide.orR ⟨m,h,Ms.le_refl _⟩
 |ret=>exact Wide.orR ⟨m,h,Ms.le_refl _⟩
 |ext id=>exact Wide.allR (r:=e') ⟨m,h,Ms.le_refl _⟩
theorem ny {id:Nat} {x:Code} {m:Ms} (h:(an P x).at (.ext id)=some m):Wide ((an P (.block id x)).at .nrm) m:=by
 simp only[an];generalize an P x=A at h⊢;obtain⟨n,r,e⟩:=A;exact Wide.orR ⟨m,h,Ms.le_refl _⟩
theorem fj {id:Nat} {x:Code} {ex:Ex} {m:Ms} (h:(an P x).at ex=some m) (hne:ex≠.ext id):Wide ((an P (.block id x)).at ex) m:=by
 simp only[an];generalize an P x=A at h⊢;obtain⟨n,r,e⟩:=A;cases ex with
 |nrm=>exact Wide.orL ⟨m,h,Ms.le_refl _⟩
 |ret=>exact⟨m,h,Ms.le_refl _⟩
 |ext j =>
  refine⟨m,?_,Ms.le_refl _⟩;show BR (Nh e id) j=some m;rw[dU,if_neg (fun hj=>hne (by rw[hj]))];exact h
theorem ui {x:Code} {ex:Ex} {m m':Ms} (hne:ex≠.nrm) (h:(an P x).at .nrm=some m) (k:(an P x).at ex=some m'):Wide ((an P (.loop x)).at ex) (m.or m'):=by
 simp only[an];generalize an P x=A at h k⊢;obtain⟨n,r,e⟩:=A;have h:n=some m:=h;subst h;cases ex with
 |nrm=>exact(hne rfl).elim
 |ret=>exact Wide.then (o:=r) ⟨m',k,Ms.le_refl _⟩
 |ext id=>exact Wide.map (l:=e) ⟨m',k,Ms.le_refl _⟩
theorem Arr.wide {A:An} {k:Ex→St0 E N→Option (List PV)} {r:List PV} {Q:Exit→Act→World→Prop} (hQ:Arr P n0 nt A β σ s a w k r Q) {ex:Ex} {m:Ms} (hm:Wide (A.at ex) m) (hk:k ex s'=some r)
    (hp:Post P n0 nt s.st (fun n=>m.t.testBit n=true) β σ s a w β' σ' s' a' w') (wf':WF s') (hle:s.st≤s'.st):Q (gj ex) a' w':=by
  obtain⟨m2,h1,h2⟩:=hm;exact hQ ex s' β' σ' a' w' hk m2 h1 (hp.wide (fun n=>(h2 n).1)) wf' hle
theorem Arr.leave {A B:An} {lv:Lv} {ws:List (Way (std E N))} (hs:Sim P n0 nt β σ s a w) (wf:WF s) (hws:Wc cfg s A lv=.ok ws) {k:Ex→St0 E N→Option (List PV)} {c0 r:List PV} {Q:Exit→Act→World→Prop}
    (hd:NT (O:=std E N) c0 k (Nat.blt 1 ws.length) 0 ws=some r) (hQ:Arr P n0 nt A β σ s a w k r Q) (hAB:∀ex m,B.at ex=some m→Wide (A.at ex) m) :
    Arr P n0 nt B β σ (cleaned s) a w (fun e s'=>Lw (O:=std E N) (Nat.blt 1 ws.length) e s' 0 ws) c0 Q:=by
  intro ex s' β' σ' a' w' hk m hm hp wf' hle;obtain⟨m1,q1,q2⟩:=Px.leave (β':=β') (σ':=σ') (a':=a') (w':=w') hs wf hws hk hd;obtain⟨m2,q3,q4⟩:=hAB ex m hm;rw[q1]at q3;cases q3;obtain⟨S,σ2,g1,g2,g3,g4⟩:=q2 (hp.wide (fun n=>(q4 n).1)).since;exact hQ ex S β' σ2 a' w' g1 m1 q1 g2 g3 g4
theorem zg (hs:Sim P n0 nt β σ s a w) {c:Operand} {x:Bool} (h:vj (O:=std E N) s c=some x):a.eval c=.bool x:=by
 unfold vj at h
 split at h
 ·rename_i n
  split at h
  ·rename_i b hb;cases h
   rcases hs.T n _ hb with⟨_,h1⟩|⟨h1,_⟩
   ·have h2:RelVal P n0 β σ s w (⟨false,[.bool x]⟩:Val (std E N)) (a.tmps.getD n undef):=h1;obtain⟨h3,h4⟩:=h2;have h4:(a.tmps.getD n undef).oneCell'=true:=h4;rw[Bp h4]at h3;exact h3.1
   exact(h1 (fun n b hm=>by simp at hm)).elim
  cases h
 ·rename_i b;cases h;cases b<;>rfl
 cases h
theorem Xb {p:Nat→Prop} (h:∃n,p n):∃n,p n∧∀m,p m→n≤m:=by
 obtain⟨n,hn⟩:=h
 induction n using Nat.strongRecOn with
 |_ n ih =>
  by_cases hx:∃m,m<n∧p m
  ·obtain⟨m,h1,h2⟩:=hx;exact ih m h1 h2
  exact⟨n,hn,fun m hm=>Nat.le_of_not_lt (fun hlt=>hx ⟨m,hlt,hm⟩)⟩
theorem nc {c:Code} {Q:Exit→Act→World→Prop} (J:Nat→Act→World→Prop) (round:∀n a w,J n a w→c.wp P (Exit.then (fun a' w'=>∃m,m<n∧J m a' w') Q) a w) {n:Nat} (h:J n a w):(Code.loop c).wp P Q a w:=by
 classical
 refine wp_loop (fun a w=>∃n,J n a w) (fun a w=>if h:∃n,J n a w then Classical.choose (Xb h)else 0) ⟨n,h⟩ (fun a w hI=>?_);have hmin:=Classical.choose_spec (Xb hI);refine wp_mono (round _ a w hmin.1) (fun e a' w' hq=>?_);cases e with
 |normal =>
  obtain⟨m,hlt,hm⟩:=hq;have hI':∃n,J n a' w':=⟨m,hm⟩;refine⟨hI',?_⟩;rw[dif_pos hI',dif_pos hI];exact Nat.lt_of_le_of_lt ((Classical.choose_spec (Xb hI')).2 m hm) hlt
 |_=>exact hq
theorem ADS (hmix:P.follows .mixedOrders=true) (inl:Inl E N) (hInl:gb P inl) (hΓ:GamOK P E N cfg):sF P (X P cfg inl:Run E N):=by
  intro n0 nt c
  induction c with
  |skip =>
    intro _ light lv s k r β σ a w Q h hs wf hQ;exact wp_skip (hQ .nrm s β σ a w h _ rfl (Post.refl hs) wf (Nat.le_refl _))
  |exit id =>
    intro _ light lv s k r β σ a w Q h hs wf hQ;refine wp_exit (hQ (.ext id) s β σ a w h ⟨0,0⟩ ?_ (Post.refl hs) wf (Nat.le_refl _));show BR [(id,⟨0,0⟩)] id=_;simp only[BR,AG.2 rfl]
  |ret =>
    intro _ light lv s k r β σ a w Q h hs wf hQ;exact wp_ret (hQ .ret s β σ a w h ⟨0,0⟩ rfl (Post.refl hs) wf (Nat.le_refl _))
  |region rid ops draw =>
    intro ht light lv s k r β σ a w Q h hs wf hQ;have ht:Mc nt ops.toList=true:=ht;have h:(match ops.toList.any lE with
      |true=>(std E N).l (std E N).h ((std E N).a [])
      |false=>Kv (O:=std E N) P cfg inl ops.toList draw s (fun s'=>k .nrm s'))=some r:=h
    have h:Kv (O:=std E N) P cfg inl ops.toList draw s (fun s'=>k .nrm s')=some r:=by
      cases hp:ops.toList.any lE
      · rw[hp]at h;exact h
      rw[hp]at h;cases h
    have fin:∀(s':St0 E N) (β':Nat→Option Nat) (σ':Nat→Option (Nat×Nat)) (a':Act) (w':World),k .nrm s'=some r→Post P n0 nt s.st (fun n=>n∈Am ops.toList) β σ s a w β' σ' s' a' w'→WF s'→s.st≤s'.st→Q .normal a' w' :=
      fun s' β' σ' a' w' hk hp wf' hle=>hQ .nrm s' β' σ' a' w' hk _ rfl (hp.wide (fun n hn=>Tw hn)) wf' hle
    cases draw
    · exact wC inl hInl hΓ ht h hs wf fin
    exact tC hmix inl hInl hΓ ht h hs wf fin
  |seq x y ihx ihy =>
    intro ht light lv s k r β σ a w Q h hs wf hQ;simp only[DK,zzj]at ht;refine wp_seq (ihx ht.1 _ _ s _ r β σ a w _ h hs wf (fun ex s1 β1 σ1 a1 w1 hk m hm hp wf1 hle=>?_));cases ex with
    |nrm =>
      refine ihy ht.2 _ _ s1 k r β1 σ1 a1 w1 Q hk hp.sim wf1 (fun ex s2 β2 σ2 a2 w2 hk2 m2 hm2 hp2 wf2 hle2=>?_);refine hQ.wide (yc hm hm2) hk2 ((hp.trans hp2 hle).wide (fun n hn=>?_)) wf2 (by omega);simp only[Ms.or,Nat.testBit_or,Bool.or_eq_true];exact hn
    |ret=>exact hQ.wide (rF (fun h=>by cases h) hm) hk hp wf1 hle
    |ext id=>exact hQ.wide (rF (fun h=>by cases h) hm) hk hp wf1 hle
  |cond c x y ihx ihy =>
    intro ht light lv s k r β σ a w Q h hs wf hQ;simp only[DK,zzj]at ht;simp only[X]at h
    split at h
    · cases h
    rename_i b hb;have hc:=zg hs hb
    split at h
    · have h:(cond b (X P cfg inl x light lv s k) (X P cfg inl y light lv s k))=some r:=h;cases b
      · refine wp_cond_false hc (ihy ht.2 _ _ s k r β σ a w Q (by simpa using h) hs wf (fun ex s1 β1 σ1 a1 w1 hk m hm hp wf1 hle=>?_));exact hQ.wide (mu hm) hk hp wf1 hle
      refine wp_cond_true hc (ihx ht.1 _ _ s k r β σ a w Q (by simpa using h) hs wf (fun ex s1 β1 σ1 a1 w1 hk m hm hp wf1 hle=>?_));exact hQ.wide (nC hm) hk hp wf1 hle
    unfold scope at h
    split at h
    · cases h
    rename_i ws hws;obtain⟨c0,h1,h2⟩:=Option.bind_eq_some_iff.1 h;have h1:(cond b (X P cfg inl x true lv (cleaned s) (fun e s'=>Lw (O:=std E N) (Nat.blt 1 ws.length) e s' 0 ws)) (X P cfg inl y true lv (cleaned s) (fun e s'=>Lw (O:=std E N) (Nat.blt 1 ws.length) e s' 0 ws)))=some c0:=h1;cases b
    · exact wp_cond_false hc (ihy ht.2 _ _ (cleaned s) _ c0 β σ a w Q (by simpa using h1) hs.cleaned wf.cleaned (hQ.leave hs wf hws h2 (fun ex m hm=>mu hm)))
    exact wp_cond_true hc (ihx ht.1 _ _ (cleaned s) _ c0 β σ a w Q (by simpa using h1) hs.cleaned wf.cleaned (hQ.leave hs wf hws h2 (fun ex m hm=>nC hm)))
  |block id x ih =>
    intro ht light lv s k r β σ a w Q h hs wf hQ;have ht:DK nt x=true:=ht;have hQ':Arr P n0 nt (an P x) β σ s a w (fun e s'=>match e with
        | .ext i=>match Nat.beq i id with
          |true=>k .nrm s'
          |false=>k e s'
        |e=>k e s') r (Exit.inBlock id Q):=by
      intro ex s1 β1 σ1 a1 w1 hk m hm hp wf1 hle;cases ex with
      |nrm=>exact hQ.wide (fj hm (fun h=>by cases h)) hk hp wf1 hle
      |ret=>exact hQ.wide (fj hm (fun h=>by cases h)) hk hp wf1 hle
      |ext i =>
        show(if i=id then Q .normal a1 w1 else Q (.exit i) a1 w1);simp only at hk
        split at hk
        · rename_i hi;have:=AG.1 hi;subst this;rw[if_pos rfl];exact hQ.wide (ny hm) hk hp wf1 hle
        rename_i hi;have hne:=Bd.1 hi;rw[if_neg hne];exact hQ.wide (fj hm (fun h=>hne (by cases h;rfl))) hk hp wf1 hle
    simp only[X]at h;refine wp_block ?_
    split at h
    · exact ih ht _ _ s _ r β σ a w _ h hs wf hQ'
    unfold scope at h
    split at h
    · cases h
    rename_i ws hws;obtain⟨c0,h1,h2⟩:=Option.bind_eq_some_iff.1 h;exact ih ht _ _ (cleaned s) _ c0 β σ a w _ h1 hs.cleaned wf.cleaned (hQ'.leave hs wf hws h2 (fun ex m hm=>⟨m,hm,Ms.le_refl _⟩))
  |loop x ih =>
    intro ht light lv s k r β σ a w Q h hs wf hQ;have ht:DK nt x=true:=ht;simp only[X]at h
    split at h
    · cases h
    rename_i m hm
    split at h
    case h_2=>cases h
    case h_3=>cases h
    rename_i head ws hhead hws
    split at h
    · cases h
    rename_i ls0 henc0;obtain⟨c0,h1,h2⟩:=Option.bind_eq_some_iff.1 h;obtain⟨g1,g2,g3,g4,g5,g6⟩:=JJ hhead;generalize hF:(fun (self:List AQ→Option (List PV)) (c:List PV)=>X P cfg inl x true { lv with nrm:=Vb x ||| lv.all } (cleaned (head.dec false c)) (uo (O:=std E N) head ws (Nat.blt 1 ws.length) self))=F at h1;have h1:C1 F N (ls0.map Leaf.pv)=some c0:=h1
    let J:Nat→Act→World→Prop:=fun n a1 w1=>∃(c:List PV) (β1:Nat→Option Nat) (σ1:Nat→Option (Nat×Nat)),C1 F n c=some c0∧Sim P n0 nt β1 σ1 (head.dec false c) a1 w1∧Ext P n0 (fun n=>s.st≤n) β σ s w β1 σ1 (head.dec false c) w1∧WF (head.dec false c) ∧
      s.st≤(head.dec false c).st∧(∀n e,(head.dec false c).getB n=some e→head.base.getB n=some e∨∃c,Slot.b n c∈head.slots)∧(∀n h,n<s.st→(head.dec false c).getH n=some h→head.base.getH n=some h∨n∈head.hs.map (·.1))∧a1.defers=a.defers∧∀n,¬m.t.testBit n=true→a1.tmps.getD n undef=a.tmps.getD n undef
    have since0:Since P n0 nt m β σ s a w β σ s a w:=⟨hs,Ext.refl _ _ _ _ _ _ _,fun _ _=>rfl,rfl,fun n e e' q1 _ q2 _=>by rw [q1] at q2;cases q2;rfl,fun n e e' q1 _ q2 _=>by rw [q1] at q2;cases q2;exact ⟨rfl,rfl,rfl,rfl⟩⟩;have toHead:∀ {n:Nat} {β1:Nat→Option Nat} {σ1:Nat→Option (Nat×Nat)} {s1:St0 E N} {a1:Act} {w1:World} {ls:List AQ},Since P n0 nt m β σ s a w β1 σ1 s1 a1 w1→(∀ n e,AL head.base.bx n=some e→∃ e',s1.getB n=some e'∧e'.cs=e.cs)→(∀ n e,AL head.base.hp n=some e→∃ e',s1.getH n=some e'∧e'.e=e.e∧e'.l=e.l∧e'.nw=e.nw∧e'.frozen=e.frozen)→head.encL s1=.ok ls →
        C1 F n (ls.map Leaf.pv)=some c0→J n a1 w1:=fun {n β1 σ1 s1 a1 w1 ls} hsi q1 q2 q3 q4=>by
      obtain⟨σ2,hj⟩:=f6 hs wf hhead hsi q1 q2 q3 (cv:=ls.map Leaf.pv) (j:=0) (Rd (pre:=[]));have hp:=hj.post hhead hsi;exact⟨ls.map Leaf.pv,β1,σ2,q4,hj.sim,hp.ext,hj.wf,hj.st,hj.oldB,fun n h hn hh=>(Zy (hj.oldH n h hn hh)).elim (fun q=>.inr (jt q).1) .inl,hsi.defers,hsi.tmps⟩
    have hkeepB:∀(n:Nat) (e:BEnt (std E N)),AL (O0 s (C9 s m)) n=some e→AL head.base.bx n=some e:=fun n e he=>by rw[g3];exact he
    have fromHead:∀ {m2:Ms} {c:List PV} {β1 β2:Nat→Option Nat} {σ1 σ2:Nat→Option (Nat×Nat)} {a1 a2:Act} {w1 w2:World} {s2:St0 E N},m.le m2→Ext P n0 (fun n=>s.st≤n) β σ s w β1 σ1 (head.dec false c) w1→s.st≤(head.dec false c).st →
        (∀n e,(head.dec false c).getB n=some e→head.base.getB n=some e∨∃c,Slot.b n c∈head.slots)→(∀n h,n<s.st→(head.dec false c).getH n=some h→head.base.getH n=some h∨n∈head.hs.map (·.1))→a1.defers=a.defers→(∀n,¬m.t.testBit n=true→a1.tmps.getD n undef=a.tmps.getD n undef) →
        Post P n0 nt (head.dec false c).st (fun n=>m2.t.testBit n=true) β1 σ1 (cleaned (head.dec false c)) a1 w1 β2 σ2 s2 a2 w2→Since P n0 nt m2 β σ s a w β2 σ2 s2 a2 w2:=fun {m2 c β1 β2 σ1 σ2 a1 a2 w1 w2 s2} hle hx hst hoB hoH hd ht hp=>by
      refine⟨hp.sim,((hx.trans (Hf.ext P n0 (fun _=>False) β1 σ1 w1)).trans hp.ext).weaken (fun n hn=>?_),fun n hn=>(hp.tmps n hn).trans (ht n (fun h=>hn ((hle n).1 h))),hp.defers.trans hd,fun n e e' q1 q2 q3 q4=>?_,fun n e e' q1 q2 q3 q4=>?_⟩
      · rcases hn with(hn|hn)|hn
        · exact hn
        · exact hn.elim
        exact Nat.le_trans hst hn
      · have h5:=hp.cleanB n e' q3 q4;rw[Z3]at h5;obtain⟨e1,h6,h7⟩:=zzo.1 h5
        rcases hoB n e1 h6 with h8|⟨c',h8⟩
        · have h8':AL head.base.bx n=some e1:=h8;rw[g3]at h8';have:=(LF.1 h8').1;rw[q1]at this;cases this;rw[←h7]
        exact(q2 (sE hle (g6 n c' h8).1)).elim
      have h5:=hp.cleanH n e' q3 q4;rw[U6]at h5;obtain⟨e1,h6,h7⟩:=zzo.1 h5;have hn:n<s.st:=Nat.lt_of_not_le (fun hle=>(wf.fresh n hle).1.2 n e q1 rfl)
      rcases hoH n e1 hn h6 with h8|h8
      · have h8':AL head.base.hp n=some e1:=h8;rw[g4]at h8';have:=(LB.1 h8').1;rw[q1]at this;cases this;rw[←h7];exact⟨rfl,rfl,rfl,rfl⟩
      rw[pN hhead]at h8;exact(q2 (wc hle h8)).elim
    refine nc J (fun n a1 w1 hJ=>?_) (n:=N) (a:=a) (w:=w) ?_
    · obtain⟨c,β1,σ1,hit,hs1,hx1,wf1,hst1,hoB1,hoH1,hd1,ht1⟩:=hJ;cases n with
      |zero=>cases hit
      |succ n =>
        have hit:F (fun ls=>C1 F n (ls.map Leaf.pv)) c=some c0:=hit;rw[←hF]at hit;refine ih ht _ _ (cleaned (head.dec false c)) _ c0 β1 σ1 a1 w1 _ hit hs1.cleaned wf1.cleaned (fun ex s2 β2 σ2 a2 w2 hk m2 hm2 hp wf2 hle=>?_);cases ex with
        |nrm =>
          have:m2=m:=by
            have h3:(an P x).nrm=some m2:=hm2;rw[hm]at h3;cases h3;rfl
          subst this;simp only[uo]at hk
          split at hk
          · rename_i q1 q2
            split at hk
            · rename_i ls q3;have hsi:=fromHead (Ms.le_refl _) hx1 hst1 hoB1 hoH1 hd1 ht1 hp;exact⟨n,Nat.lt_succ_self n,toHead hsi (hsi.kept hhead q1 q2).1 (hsi.kept hhead q1 q2).2 q3 (by rw[←hF];exact hk)⟩
            cases hk
          cases hk
        |ret =>
          obtain⟨m3,q1,q2⟩:=ui (P:=P) (x:=x) (ex:=.ret) (fun h=>by cases h) hm hm2;have hle1:m.le m3:=Ms.le_trans (Ms.le_or_left _ _) q2;have hle2:m2.le m3:=Ms.le_trans (Ms.le_or_right _ _) q2;have hsi:=fromHead hle1 hx1 hst1 hoB1 hoH1 hd1 ht1 (hp.wide (fun n=>(hle2 n).1));obtain⟨m4,r1,r2⟩:=Px.leave (β':=β2) (σ':=σ2) (a':=a2) (w':=w2) hs wf hws hk h2;rw[q1]at r1;cases r1;obtain⟨S,σ3,t1,t2,t3,t4⟩:=r2 hsi;exact hQ .ret S β2 σ3 a2 w2 t1 m3 q1 t2 t3 t4
        |ext id =>
          obtain⟨m3,q1,q2⟩:=ui (P:=P) (x:=x) (ex:=.ext id) (fun h=>by cases h) hm hm2;have hle1:m.le m3:=Ms.le_trans (Ms.le_or_left _ _) q2;have hle2:m2.le m3:=Ms.le_trans (Ms.le_or_right _ _) q2;have hsi:=fromHead hle1 hx1 hst1 hoB1 hoH1 hd1 ht1 (hp.wide (fun n=>(hle2 n).1));obtain⟨m4,r1,r2⟩:=Px.leave (β':=β2) (σ':=σ2) (a':=a2) (w':=w2) hs wf hws hk h2;rw[q1]at r1;cases r1;obtain⟨S,σ3,t1,t2,t3,t4⟩:=r2 hsi;exact hQ (.ext id) S β2 σ3 a2 w2 t1 m3 q1 t2 t3 t4
    exact toHead since0 (fun n e he=>⟨e,by rw[g3]at he;exact(LF.1 he).1,rfl⟩) (fun n e he=>⟨e,by rw[g4]at he;exact(LB.1 he).1,rfl,rfl,rfl,rfl⟩) henc0 h1
  |_ =>
    intro _ light lv s k r β σ a w Q h hs wf hQ;cases h
end
theorem dL {n m:Nat} (h:n≤m):∀{l:List Oper},Mc n l=true→Mc m l=true
 | [],_=>rfl
 |o::l,hl=>by
  simp only[Mc,zzj]at hl⊢;refine⟨?_,dL h hl.2⟩;cases hd:o.dst with
  |none=>rfl
  |some d =>
   rw[hd]at hl;have:=A7.1 hl.1;exact A7.2 (by omega)
theorem Qj {n m:Nat} (h:n≤m):∀{c:Code},DK n c=true→DK m c=true:=by
 intro c
 induction c with
 |region id ops draw=>exact dL h
 |seq x y ihx ihy=>intro hc;simp only[DK,zzj]at hc⊢;exact⟨ihx hc.1,ihy hc.2⟩
 |cond c x y ihx ihy=>intro hc;simp only[DK,zzj]at hc⊢;exact⟨ihx hc.1,ihy hc.2⟩
 |block id x ih=>exact ih
 |loop x ih=>exact ih
 |_=>exact fun _=>rfl
section
variable {E:Env} {N:Nat} {P:Program} {cfg:Cfg} {n0 n0':Nz} {nt:Nat} {β β':Nat→Option Nat} {σ σ':Nat→Option (Nat×Nat)} {s s' s2:St0 E N} {a a':Act} {w w':World}
def cO (tmps:Array Value):ResultVar→Sem Value
 | .tmp t=>pure (tmps.getD t undef)
 | .cell a t=>do loadVar t (←asAddr (tmps.getD a undef))
theorem sA (hs:Sim P n0 nt β σ s a w) {n:Nat} {v:AV (std E N)} (h:s.getT n=some ⟨[],v⟩):RelAV P n0 β σ s w v (a.tmps.getD n undef):=by
 rcases hs.T n _ h with⟨_,h1⟩|⟨h1,_⟩
 ·exact h1
 exact(h1 (fun n b hm=>by simp at hm)).elim
theorem xu (hs:Sim P n0 nt β σ s a w) {rv:ResultVar} {v:Val (std E N)} (h:qD P s rv=some v):(∃z,(cO a.tmps rv).run P w=.ok z w∧RelVal P n0 β σ s w v z)∧∀n,(Mh s n∧∀k tv,s.getT k=some tv→n∉tv.v.names)→n∉AH v.cs:=by
 unfold qD at h
 split at h
 ·rename_i t
  split at h
  ·rename_i y hy;cases h;exact⟨⟨_,rfl,sA hs hy⟩,fun n hf=>hf.2 t _ hy⟩
  cases h
 rename_i t T
 split at h
 ·rename_i b off hb
  split at h
  ·rename_i e he
   split at h
   ·rename_i cs hcs
    split at h
    ·rename_i hag;cases h;have h1:RelVal P n0 β σ s w (⟨false,[.ptr b off]⟩:Val (std E N)) (a.tmps.getD t undef):=sA hs hb;obtain⟨h2,h3⟩:=h1;have h3:(a.tmps.getD t undef).oneCell'=true:=h3;rw[Bp h3]at h2;have hp:Q1 β s b off (a.tmps.getD t undef):=h2.1;obtain⟨blk,cells,el,hv,hβ,hheap,hrel⟩:=bn hs.M he hp;obtain⟨e1,e2⟩:=DM hcs;have hrr:=RelCs.take (P.cellsOf T) (RelCs.drop off hrel);rw[←e1]at hrr;obtain⟨x,hx,hrx⟩:=SO hrr hag ((RelCs.length hrr).symm.trans e2) (fun j x hj=>QB hheap off _ j x hj);refine⟨⟨x,?_,hrx⟩,fun n hf hm=>(hf.1.1 b e he).2 (Et hcs hm)⟩;simp only[cO,hv,Sem.run_bind];simp[asAddr,hx]
    cases h
   cases h
  cases h
 cases h
theorem XW (hs:Sim P n0 nt β σ s a w):∀{rv:List ResultVar} {vs:List (Val (std E N))},Nv P s rv=some vs→(∃zs,(rv.mapM (cO a.tmps)).run P w=.ok zs w∧RelVals P n0 β σ s w vs zs)∧∀n,(Mh s n∧∀k tv,s.getT k=some tv→n∉tv.v.names)→n∉B0 vs
 | [],vs,h=>by
  simp only[Nv]at h;cases h;exact⟨⟨[],by simp[List.mapM_nil],trivial⟩,fun n _=>by simp[B0]⟩
 |r::rv,vs,h=>by
  simp only[Nv]at h
  split at h
  ·rename_i v l hv hl;cases h;obtain⟨⟨z,h1,h2⟩,h3⟩:=xu hs hv;obtain⟨⟨zs,h4,h5⟩,h6⟩:=XW hs hl;refine⟨⟨z::zs,?_,h2,h5⟩,fun n hf hm=>?_⟩
   ·simp[List.mapM_cons,Sem.run_bind,h1,h4]
   simp only[B0,List.mem_append]at hm;exact hm.elim (h3 n hf) (h6 n hf)
  cases h
def iA:List Value→Value
 | [x]=>x
 |zs=>.tuple zs.toArray
theorem Yg (hs:Sim P n0 nt β σ s a w) {fn:Func} {vs:List (Val (std E N))} (h:Nv P s fn.results.toList=some vs):∃z zs,(results fn a.tmps).run P w=.ok z w∧RelVals P n0 β σ s w vs zs∧z=iA zs:=by
 obtain⟨⟨zs,h1,h2⟩,_⟩:=XW hs h;have:(results fn a.tmps).run P w=.ok (if h:zs.toArray.size=1 then zs.toArray[0]else .tuple zs.toArray) w:=by
  have e:results fn a.tmps=(do let vs ←fn.results.mapM (cO a.tmps);pure (if h:vs.size=1 then vs[0]else .tuple vs)):=by
   unfold results;congr 1
  rw[e,Array.mapM_eq_mapM_toList,map_eq_pure_bind];simp only[Sem.run_bind,h1,Result.andThen_ok,Sem.run_pure]
 refine⟨_,zs,this,h2,?_⟩
 match zs with
 | []=>simp[iA]
 | [x]=>simp[iA]
 |x::y::r=>simp[iA]
theorem eJ {vs:List (Val (std E N))} {zs:List Value} {z:Value} (h:RelVals P n0 β σ s w vs zs) (hz:z=iA zs):RelAV P n0 β σ s w (LI vs) z:=by
 subst hz
 match vs,zs,h with
 | [],[],h=>exact⟨#[],rfl,trivial⟩
 | [v],[x],h=>exact h.1
 |v::v2::vs,x::y::zs,h=>exact⟨_,rfl,h⟩
 | [_],x::y::zs,h=>exact h.2.elim
 |_::_::_,[_],h=>exact h.2.elim
theorem dk {vs:List (Val (std E N))} {n:Nat} (h:n∉B0 vs):n∉(LI vs).names:=by
 match vs,h with
 | [],h=>exact h
 | [v],h=>intro hm;exact h (by simp only[B0,List.append_nil];exact hm)
 |v::v2::vs,h=>exact h
theorem Qf:∀{args:List (AV (std E N))} {i:Nat} {t:TM (TV (std E N))} {n:Nat} {tv:TV (std E N)},DR (B5 i args t) n=some tv→DR t n=some tv∨(i≤n∧∃v,args[n-i]?=some v∧tv=⟨[],v⟩)
 | [],i,t,n,tv,h=>.inl h
 |v::args,i,t,n,tv,h=>by
  simp only[B5]at h
  rcases Qf h with h|⟨h1,u,h2,h3⟩
  ·rw[ER]at h
   split at h
   ·rename_i hn;cases h;exact .inr ⟨by omega,v,by rw[hn.1];simp,rfl⟩
   exact .inl h
  refine .inr ⟨by omega,u,?_,h3⟩;rw[show n-i=(n-(i+1))+1 by omega];simpa using h2
theorem RelArgs.len:∀{xs:List (AV (std E N))} {vs:List Value},RelArgs P n0 β σ s w xs vs→xs.length=vs.length
 | [],[],_=>rfl
 |_::_,_::_,h=>by simp[RelArgs.len h.2]
 | [],_::_,h=>h.elim
 |_::_,[],h=>h.elim
theorem RelArgs.get:∀{xs:List (AV (std E N))} {vs:List Value},RelArgs P n0 β σ s w xs vs→∀{i:Nat} {x:AV (std E N)},xs[i]?=some x→∃v,vs[i]?=some v∧RelAV P n0 β σ s w x v
 | [],[],_,i,x,h=>by simp at h
 |y::xs,v::vs,h,i,x,hx=>by
  cases i with
  |zero=>simp at hx;subst hx;exact⟨v,rfl,h.1⟩
  |succ i=>obtain⟨u,h1,h2⟩:=RelArgs.get h.2 (i:=i) (by simpa using hx);exact⟨u,by simpa using h1,h2⟩
 | [],_::_,h,_,_,_=>h.elim
 |_::_,[],h,_,_,_=>h.elim
def GL (nt:Nat) (vals:List Value):Act:={ tmps:=vals.toArray++Array.replicate (nt-vals.toArray.size) undef,defers:=[] }
theorem aN {nt:Nat} {vals:List Value}:nt≤(GL nt vals).tmps.size:=by
 simp[GL];omega
theorem zu (hn0:n0.n≤w.heap.size) (m:Mem P n0 β σ s w) (hkp:Kept P n0 β σ s w) {args:List (AV (std E N))} {vals:List Value} (hr:RelArgs P n0 β σ s w args vals) {nt:Nat} :
    Sim P n0 (GL nt vals).tmps.size β σ { s with tm:=B5 0 args .e } (GL nt vals) w:=by
  have sub:Sub s ({ s with tm:=B5 0 args .e }:St0 E N):=Sub.of_same (fun _=>rfl) (fun _=>rfl);refine⟨hn0,rfl,fun n tv hn=>?_,sub.mem m,hkp.ext (sub.ext P n0 (fun _=>False) β σ w)⟩;have hn:DR (B5 0 args .e) n=some tv:=hn
  rcases Qf hn with h|⟨_,v,h1,h2⟩
  · rw[Wf]at h;cases h
  subst h2;rw[Nat.sub_zero]at h1;obtain⟨z,h3,h4⟩:=hr.get h1;refine .inl ⟨fun n b hm=>by simp at hm,?_⟩;have:(GL nt vals).tmps.getD n undef=z:=by
    obtain⟨hlt,hz⟩:=List.getElem?_eq_some_iff.1 h3;simp only[GL,Array.getD_eq_getD_getElem?];rw[Array.getElem?_append_left (by simpa using hlt)];simp[h3]
  rw[this];exact(sub.ext P n0 (fun _=>False) β σ w).relAV (fun _ _ h=>h) h4
theorem wf0 (hf:∀n,s.st≤n→Mh s n) {args:List (AV (std E N))} (ha:∀x∈args,∀n∈x.names,n<s.st):WF ({ s with tm:=B5 0 args .e }:St0 E N):=by
 have get:∀(k:Nat) (tv:TV (std E N)),({ s with tm:=B5 0 args .e }:St0 E N).getT k=some tv→∃v∈args,tv=⟨[],v⟩:=fun k tv hk=>by
  have hk:DR (B5 0 args .e) k=some tv:=hk
  rcases Qf hk with h|⟨_,v,h1,h2⟩
  ·rw[Wf]at h;cases h
  exact⟨v,List.mem_of_getElem? h1,h2⟩
 refine⟨fun n hn=>⟨hf n hn,fun k tv hk hm=>?_⟩,fun n tv hn=>?_⟩
 ·obtain⟨v,h1,h2⟩:=get k tv hk;subst h2;have:=ha v h1 n hm;have hn:s.st≤n:=hn;omega
 obtain⟨v,h1,h2⟩:=get n tv hn;rw[h2]
theorem RelCs.app:∀{xs ys:List (AC0 E N)} {us vs:List Value},RelCs P n0 β σ s w xs us→RelCs P n0 β σ s w ys vs→RelCs P n0 β σ s w (xs++ys) (us++vs)
 | [],_,[],_,_,h=>h
 |x::xs,_,u::us,_,h,h'=>⟨h.1,RelCs.app h.2 h'⟩
 | [],_,_::_,_,h,_=>h.elim
 |_::_,_,[],_,h,_=>h.elim
theorem RelVals.flat:∀{vs:List (Val (std E N))} {zs:List Value},RelVals P n0 β σ s w vs zs→RelCs P n0 β σ s w ((vs.map (·.cs)).flatten) ((zs.map fun z=>z.cells.toList).flatten)
 | [],[],_=>trivial
 |v::vs,z::zs,h=>RelCs.app h.1.1 (RelVals.flat h.2)
 | [],_::_,h=>h.elim
 |_::_,[],h=>h.elim
theorem bF:∀{ts:List TypeId} {cs:List (AC0 E N)},AX P ts cs=true→cs.length=ts.length
 | [],[],_=>rfl
 |t::ts,c::cs,h=>by
  simp only[AX]at h
  split at h
  ·simp[bF h]
  cases h
 | [],_::_,h=>by simp[AX]at h
 |_::_,[],h=>by simp[AX]at h
theorem UR {S:St0 E N} {β2:Nat→Option Nat} {σ2:Nat→Option (Nat×Nat)}:∀ {ts:List TypeId} {vs:List (Val (std E N))} {zs:List Value} {xs:List (AC0 E N)} {vs':List (Val (std E N))},Om P ts vs=true→RelVals P n0 β σ s w vs zs →
    RelCs P n0 β2 σ2 S w xs ((zs.map fun z=>z.cells.toList).flatten)→Il P ts xs=some vs'→RelVals P n0 β2 σ2 S w vs' zs∧∀n∈B0 vs',n∈AH xs
  | [],[],[],xs,vs',_,_,_,h=>by
    simp only[Il]at h;cases h;exact⟨trivial,fun n hn=>by simp[B0]at hn⟩
  |t::ts,v::vs,z::zs,xs,vs',hr,hv,hx,h=>by
    simp only[Om,zzj]at hr;simp only[Il]at h;cases hl:AW P t with
    |none=>rw[hl]at h;cases h
    |some l =>
      rw[hl]at h hr;simp only[zzj,beq_iff_eq]at h hr
      split at h
      · cases h
      rename_i r hrest;cases h;have hlen:z.cells.toList.length=l.length:=by rw[←RelCs.length hv.1.1];exact bF hr.1.2
      have hx':RelCs P n0 β2 σ2 S w xs (z.cells.toList++(zs.map fun z=>z.cells.toList).flatten):=hx;have h1:=RelCs.take l.length hx';have h2:=RelCs.drop l.length hx';rw[←hlen,List.take_left]at h1;rw[←hlen,List.drop_left]at h2;rw[hlen]at h1 h2;obtain⟨h3,h4⟩:=UR hr.2 hv.2 h2 hrest;refine⟨⟨⟨h1,?_⟩,h3⟩,fun n hn=>?_⟩
      · have:=hv.1.2;rw[hr.1.1]at this;exact this
      simp only[B0,List.mem_append]at hn
      rcases hn with hn|hn
      · obtain⟨c,hc,hm⟩:=BU.1 hn;exact BU.2 ⟨c,List.mem_of_mem_take hc,hm⟩
      obtain⟨c,hc,hm⟩:=BU.1 (h4 n hn);exact BU.2 ⟨c,List.mem_of_mem_drop hc,hm⟩
  | [],_::_,_,_,_,hr,_,_,_=>by simp[Om]at hr
  |_::_,[],_,_,_,hr,_,_,_=>by simp[Om]at hr
  |_,[],_::_,_,_,_,hv,_,_=>hv.elim
  |_,_::_,[],_,_,_,hv,_,_=>hv.elim
theorem dT:∀{sl:List Slot} (cv:List PV) (j q:Nat) (u:St0 E N) (t:TM (TV (std E N))),(∀x∈sl,∃b c,x=Slot.b b c)→Bk (O:=std E N) cv j q sl { u with tm:=t }={ Bk (O:=std E N) cv j q sl u with tm:=t }
 | [],cv,j,q,u,t,_=>rfl
 |x::sl,cv,j,q,u,t,h=>by
  obtain⟨b,c,rfl⟩:=h x zzl;rw[Xn,Xn];exact dT cv _ _ { u with bx:=OE u.bx b (some { cs:=(AP E N cv j q c).1,dirty:=true }),hp:=(AP E N cv j q c).2++u.hp } t (fun y hy=>h y (zzm _ hy))
theorem yM {R:Run E N} (hR:sF P R):gb P (jk (O:=std E N) P cfg R):=by
  intro f args s k r h n0 β σ w vals hn0 m hkp hf ha hr;unfold jk at h;cases hfn:P.funcs[f]? with
  |none=>rw[hfn]at h;cases h
  |some fn =>
    rw[hfn]at h;simp only at h;cases hb:fn.body with
    |none=>rw[hb]at h;cases h
    |some body =>
      rw[hb]at h;simp only at h
      split at h
      · cases h
      rename_i htm;have htm':=Qj (aN (nt:=fn.ntmps) (vals:=vals)) htm;refine calls_of_wp hfn hb ?_;have hs1:=zu (nt:=fn.ntmps) hn0 m hkp hr;have wf1:=wf0 hf ha;have subT:∀(u:St0 E N) (t:TM (TV (std E N))),Sub u ({ u with tm:=t }:St0 E N):=fun u t=>Sub.of_same (fun _=>rfl) (fun _=>rfl)
      have subs1:Sub s ({ s with tm:=B5 0 args .e }:St0 E N):=subT _ _
      split at h
      · refine hR n0 _ body htm' _ _ _ _ r β σ (GL fn.ntmps vals) w _ h hs1 wf1 (fun ex s' β' σ' a' w' hk mx hmx hp wf' hle=>?_)
        split at hk
        case h_2=>cases hk
        rename_i vs hex hvs;obtain⟨z,zs,h1,h2,h3⟩:=Yg hp.sim hvs;obtain⟨_,h4⟩:=XW hp.sim hvs;have sub2:Sub s' ({ s' with tm:=s.tm }:St0 E N):=subT _ _;have hfin:∃(av:AV (std E N)) (s'':St0 E N) (β'':Nat→Option Nat) (σ'':Nat→Option (Nat×Nat)),k av s''=some r∧s''.tm=s.tm∧s.st≤s''.st∧Mem P n0 β'' σ'' s'' w'∧Ext P n0 (fun n=>s.st≤n) β σ s w β'' σ'' s'' w' ∧
          (∀n e,s''.getB n=some e→e.dirty=false→s.getB n=some e)∧(∀n e,s''.getH n=some e→e.dirty=false→s.getH n=some e) ∧
          RelAV P n0 β'' σ'' s'' w' av z∧∀n,s''.st≤n→Mh s'' n∧n∉av.names:=by
          refine⟨LI vs,_,β',σ',hk,rfl,hle,sub2.mem hp.sim.M,(((subs1.ext P n0 (fun _=>False) β σ w).trans hp.ext).trans (sub2.ext P n0 (fun _=>False) β' σ' w')).weaken (fun n h=>?_),hp.cleanB,hp.cleanH,(sub2.ext P n0 (fun _=>False) β' σ' w').relAV (fun _ _ h=>h) (eJ h2 h3),fun n hn=>?_⟩
          · rcases h with(h|h)|h
            · exact h.elim
            · exact h
            exact h.elim
          have:=wf'.fresh n hn;exact⟨this.1,dk (h4 n this)⟩
        have hdef:a'.defers=[]:=hp.defers;cases ex with
        |nrm=>exact⟨hdef,z,h1,hfin⟩
        |ret=>exact⟨hdef,z,h1,hfin⟩
        |ext id=>simp[Uz]at hex
      split at h
      case h_2=>cases h
      rename_i sl rs hsl hrs;obtain⟨c0,h1,h2⟩:=Option.bind_eq_some_iff.1 h
      split at h2
      · cases h2
      rename_i vs' hvs';have hvs':Il P fn.resultTypes.toList (AP E N c0 0 s.st rs).1=some vs':=hvs';generalize hm:jD (an P body)=mm at *
      unfold jD at hm;have hmm:∀ex mx,Uz ex=false→(an P body).at ex=some mx→mx.le mm:=fun ex mx he hx=>by
        cases ex with
        |nrm =>
          obtain⟨m2,q1,q2⟩:=Wide.orL (p:=(an P body).ret) ⟨mx,hx,Ms.le_refl _⟩;have q1:YL (an P body).nrm (an P body).ret=some m2:=q1;rw[q1]at hm;subst hm;exact q2
        |ret =>
          obtain⟨m2,q1,q2⟩:=Wide.orR (o:=(an P body).nrm) ⟨mx,hx,Ms.le_refl _⟩;have q1:YL (an P body).nrm (an P body).ret=some m2:=q1;rw[q1]at hm;subst hm;exact q2
        |ext id=>simp[Uz]at he
      refine hR n0 _ body htm' _ _ _ _ c0 β σ (GL fn.ntmps vals) w _ h1 hs1.cleaned wf1.cleaned (fun ex s' β' σ' a' w' hk mx hmx hp wf' hle=>?_)
      split at hk
      · cases hk
      · cases hk
      rename_i vs hex hvs
      split at hk
      case h_2=>cases hk
      case h_3=>cases hk
      rename_i ls used hck hchk henc1
      split at hk
      case h_2=>cases hk
      rename_i more henc2;simp only[zzj]at hck;obtain⟨hres,hcB⟩:=hck;have hc0:c0=(ls++more).map Leaf.pv:=(Option.some.inj hk).symm;have hsi:=Post.since (s:={ s with tm:=B5 0 args .e }) (hp.wide (fun n=>(hmm ex mx hex hmx n).1));obtain⟨z,zs,r1,r2,r3⟩:=Yg hp.sim hvs;obtain⟨hslm,hslb⟩:=LN hsl;have hj:=zy (s:=s') (a:=a') (w:=w') (L:=s.st) (base:={ s with tm:=.e,bx:=O0 s (C9 ({ s with tm:=B5 0 args .e }:St0 E N) mm),hp:=Qh s (cA ({ s with tm:=B5 0 args .e }:St0 E N) mm) }) hp.sim
        (fun n tv hn=>by
          have hn:DR (.e:TM (TV (std E N))) n=some tv:=hn;rw[Wf]at hn;cases hn)
        (fun n e he=>by
          have he':AL (O0 s _) n=some e:=he;obtain⟨g1,g2⟩:=LF.1 he';obtain⟨e',g3,g4⟩:=Xd hcB he';exact⟨Nat.lt_of_not_le (fun hle=>((hf n hle).1 n e g1).1 rfl),⟨e',g3,hsi.B n e e' g1 g2 g3 g4⟩,fun k hk=>Nat.lt_of_not_le (fun hle=>((hf k hle).1 n e g1).2 hk)⟩)
        (fun n e he=>by
          have he':AL (Qh s _) n=some e:=he;obtain⟨g1,g2⟩:=LB.1 he';obtain⟨e',g3,g4⟩:=Ya hchk he';exact⟨Nat.lt_of_not_le (fun hle=>(hf n hle).2 n e g1 rfl),e',g3,hp.keptH (s:={ s with tm:=B5 0 args .e }) g1 g3 g4⟩)
        (rs:=rs) (cs:=(vs.map (·.cs)).flatten) r2.flat (sl:=sl) (fun b c hm=>by
          obtain⟨_,e,he⟩:=hslm b c hm;exact Nat.lt_of_not_le (fun hle=>((hf b hle).1 b e he).1 rfl))
        henc1 henc2 (cv:=c0) (j:=0) (by rw[hc0];exact Rd (pre:=[]))
      obtain⟨σ2,S,hS,j1,j2,j3⟩:=hj;obtain⟨s1,s2⟩:=UR hres r2 j1 hvs';have hSt:Bk (O:=std E N) c0 rs.length (s.st+(AP E N c0 0 s.st rs).2.length) sl { s with bx:=O0 s (C9 ({ s with tm:=B5 0 args .e }:St0 E N) mm),hp:=(AP E N c0 0 s.st rs).2++Qh s (cA ({ s with tm:=B5 0 args .e }:St0 E N) mm) }={ S with tm:=s.tm }:=by
        rw[hS,Nat.zero_add];exact dT c0 rs.length (s.st+(AP E N c0 0 s.st rs).2.length) { s with tm:=.e,bx:=O0 s (C9 ({ s with tm:=B5 0 args .e }:St0 E N) mm),hp:=(AP E N c0 0 s.st rs).2++Qh s (cA ({ s with tm:=B5 0 args .e }:St0 E N) mm) } s.tm hslb
      have hk2:k (LI vs') { S with tm:=s.tm }=some r:=by rw[←hSt];exact h2
      have sub2:Sub S ({ S with tm:=s.tm }:St0 E N):=subT _ _;have hfin:∃(av:AV (std E N)) (s'':St0 E N) (β'':Nat→Option Nat) (σ'':Nat→Option (Nat×Nat)),k av s''=some r∧s''.tm=s.tm∧s.st≤s''.st∧Mem P n0 β'' σ'' s'' w'∧Ext P n0 (fun n=>s.st≤n) β σ s w β'' σ'' s'' w' ∧
        (∀n e,s''.getB n=some e→e.dirty=false→s.getB n=some e)∧(∀n e,s''.getH n=some e→e.dirty=false→s.getH n=some e) ∧
        RelAV P n0 β'' σ'' s'' w' av z∧∀n,s''.st≤n→Mh s'' n∧n∉av.names:=by
        refine⟨LI vs',_,β',σ2,hk2,rfl,j3.st,sub2.mem j3.sim.M,((((subs1.ext P n0 (fun _=>False) β σ w).trans hsi.ext).trans j3.ext).trans (sub2.ext P n0 (fun _=>False) β' σ2 w')).weaken (fun n h=>?_),fun n e he hd=>?_,fun n e he hd=>?_,(sub2.ext P n0 (fun _=>False) β' σ2 w').relAV (fun _ _ h=>h) (eJ s1 r3),fun n hn=>?_⟩
        · rcases h with((h|h)|h)|h
          · exact h.elim
          · exact h
          · exact h
          exact h.elim
        · have he':AL (O0 s _) n=some e:=j3.cleanB n e he hd;exact(LF.1 he').1
        · have he':AL (Qh s _) n=some e:=j3.cleanH n e he hd;exact(LB.1 he').1
        exact⟨(j3.wf.fresh n hn).1,dk (fun hm=>by
          have hn:S.st≤n:=hn;have:=j2 n (s2 n hm);omega)⟩
      have hdef:a'.defers=[]:=hp.defers;cases ex with
      |nrm=>exact⟨hdef,z,r1,hfin⟩
      |ret=>exact⟨hdef,z,r1,hfin⟩
      |ext id=>simp[Uz]at hex
theorem oG (hmix:P.follows .mixedOrders=true) (hΓ:GamOK P E N cfg):∀n,sF P (XL (O:=std E N) P cfg n:Run E N)
 |0=>fun n0 nt c _ light lv s k r β σ a w Q h=>by cases h
 |n+1=>ADS hmix _ (yM (oG hmix hΓ n)) hΓ
end
end Go.Px
end
