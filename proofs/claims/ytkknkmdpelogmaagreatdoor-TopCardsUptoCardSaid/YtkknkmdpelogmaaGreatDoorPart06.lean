/- Part 6. -/
import Derived.Test.YtkknkmdpelogmaaGreatDoorPart05
import Derived.Test.YtkknkmdpelogmaaGreatDoorPart04
set_option linter.unusedVariables false
set_option linter.unusedSimpArgs false
section
namespace Go.Px
section
variable {E:Env} {N:Nat} {P:Program} {n0:Nz} {nt:Nat} {β:Nat→Option Nat} {σ:Nat→Option (Nat×Nat)} {s s':St0 E N} {a:Act} {w w':World}
structure GamOK(P:Program)(E:Env)(N:Nat)(cfg:Cfg):Prop where
 ci:∀ci∈cfg.gam,Ko P E N ci∧Ko P E N { ci with own:=false }
theorem gl{T e':TypeId}(hu:P.underlying T=some (.slice e')){lo hi:Option Value}{lb ub:Int}{av:Option Addr}{len cap:Nat}{ts:List TypeId}
    (b1:(lo=none∧lb=0)∨∃k,lo=some (.int k lb)) (b2:(hi=none∧ub=len)∨∃k,hi=some (.int k ub)) (hts:AY P e'=some ts) (hc:len≤cap)
    (c1:0≤lb) (c2:lb≤ub) (c3:ub≤(len:Int)) :
    (Instr.sliceAt T (.slice av len cap) lo hi none).run P w=.ok (.slice (if cap=lb.toNat then av else av.map (·.add (lb.toNat*ts.length))) (ub.toNat-lb.toNat) (cap-lb.toNat)) w:=by
  obtain⟨hsz,hpos⟩:=C1 hts;obtain⟨ti,hti⟩:=EO (P:=P) (t:=e') (by omega);have hsb:=O5 (P:=P) (w:=w) (isSl:=true) b1 b2 c1 c2 c3 hc;unfold Instr.sliceAt;rw[Sem.run_bind,run_underlying hu,Result.andThen_ok];simp[Instr.slice,run_underlying hu,hsb,BV hti,hsz]
def cw(P:Program)(n0:Nz)(β:Nat→Option Nat)(σ:Nat→Option (Nat×Nat))(s:St0 E N)(a:Act)(w:World)(ctx:List (Nat×Bool))(o:Oper)(id:Nat)(as:List Bool)(wr:Wr (std E N)):Prop:=
  (∀b∈as,b=true)→∃z β' σ' w',((execOp a.eval o).run P w=.ok (.value z) w'∨((execOp a.eval o).run P w=.ok .skip w'∧z=undef))∧Mem P n0 β' σ' (s.apply { hs:=wr.hs }) w'∧Ext P n0 (·=id) β σ s w β' σ' (s.apply { hs:=wr.hs }) w'∧Tidy a (·=id) s (s.apply { hs:=wr.hs })∧wr.bs=[] ∧
    ((∃d v,o.dst=some d∧wr.ts=[(d,some ⟨ctx,v⟩)]∧RelAV P n0 β' σ' (s.apply { hs:=wr.hs }) w' v z∧∀n,Fresh a s n→n≠id→n∉v.names)∨(o.dst=none∧wr.ts=[]))
theorem zR(hs:Sim P n0 nt β σ s a w){ctx:List (Nat×Bool)}(hf:Facts a ctx){id:Nat}(hid:Fresh a s id){o:Oper}{T:TypeId}{x hi:Operand}{lo:Option Operand}(hop:o.op=.slice T x lo (some hi) none)(hlo:Vh lo=true)
    {c:AC0 E N} (hc:RelC P n0 β σ s w c (a.eval x)) {r:StepRes (std E N)} {m m':Nat} (h:RM.run s (fC P ctx id o.dst T hi c) m=.ok (some r,m')):∃as wr,r=.plain as wr∧cw P n0 β σ s a w ctx o id as wr:=by
  unfold fC at h
  split at h
  case h_2=>cases zzc h
  rename_i e q e' d heT hd;obtain⟨m1,h0⟩:=zzf h;cases hh:s.getH q with
  |none=>rw[hh]at h0;exact(zzb h0).elim
  |some en=>
    rw[hh]at h0;simp only at h0
    split at h0
    case h_2=>cases zzc h0
    rename_i hg;simp only[zzk,Bool.not_eq_true']at hg;obtain⟨hfz,hg1,hg2⟩:=hg;have he1:=AE.1 hg1;have he2:=AE.1 hg2;subst he2;obtain⟨b,m2,h1,h2⟩:=zza h0;obtain⟨b,rfl⟩:∃j:Int,j=b:=⟨b,rfl⟩;have hr:=zzc h2;refine⟨_,_,(Option.some.inj hr).symm,fun has=>?_⟩;have hb:decide (0≤(0:Int)∧(0:Int)≤b∧b≤((List.length en.l:Nat):Int))=true:=has _ zzm;have hb:=of_decide_eq_true hb;obtain⟨k,hk⟩:=Y6 hs hf h1;have hu:=Qs heT
    rcases hs.M.H q en hh with⟨t,ts,ht,hts,hrl,hm⟩|hM
    case inr=>exact(hM.noSl (t:=T) (by rw[←he1];exact CS heT)).elim
    rw[←he1]at hts ht;have hlo':(lo.map a.eval=none∧(0:Int)=0)∨∃k,lo.map a.eval=some (.int k 0):=by
      rcases Rm (ctx:=ctx) hlo with rfl|⟨k,rfl⟩
      · exact .inl ⟨rfl,rfl⟩
      exact .inr ⟨k,by simp[Act.eval]⟩
    have run:∀{av:Option Addr} {len cap:Nat},a.eval x=.slice av len cap→en.l.length=len→len≤cap→(execOp a.eval o).run P w=.ok (.value (.slice (if cap=(0:Int).toNat then av else av.map (·.add ((0:Int).toNat*ts.length))) (b.toNat-(0:Int).toNat) (cap-(0:Int).toNat))) w:=by
      intro av len cap hv hl hcp;refine CQ (x:=Instr.sliceAt T (a.eval x) (lo.map a.eval) (some (a.eval hi)) none) (by simp[execOp,hop]) ?_;rw[hv,hk];exact gl hu hlo' (.inr ⟨k,rfl⟩) hts hcp (Int.le_refl _) hb.2.1 (by rw[←hl];exact hb.2.2)
    have hbl:(en.l.take b.toNat).length=b.toNat:=by rw[List.length_take];have:=hb.2.2;omega
    obtain⟨_,hkk⟩:=hc;obtain⟨_,ho⟩:=hkk en hh;have hpv:∀i j,i<b.toNat→AD (en.l.take b.toNat) i j=AD en.l i j:=fun i j hi=>by simp[AD,AB,List.getD,List.getElem?_take,hi]
    let hnew:HEnt (std E N):={ en with l:=en.l.take b.toNat,dirty:=true }
    rcases ho with⟨blk,cap,hsi,hva⟩|⟨hsi,hz,av0,hva⟩
    · rcases hm with⟨hn,_⟩|⟨blk',cap',cells,el,hs',hheap,hel,hsz,hcap,hnw,u,hu1,hrep⟩
      · rw[hn]at hsi;cases hsi
      rw[hs']at hsi;cases hsi;subst hel;have hlen:b.toNat≤en.l.length:=by have:=hb.2.2;omega
      obtain⟨q1,q2,q3,q4⟩:=ib hs.M hid hh hfz hs' (h:=hnew) (wr:={ hs:=[(q,none),(id,some hnew)] }) (w':=w) rfl rfl rfl rfl hfz rfl rfl rfl rfl (fun _ _=>rfl) hheap (by rw[he1]at ht;exact ht) (by rw[he1]at hts;exact hts)
        (fun r hr=>hrl r (List.mem_of_mem_take hr)) hsz (by show(en.l.take b.toNat).length≤cap;omega) hnw u
        (fun i j hi hj=>hu1 i j (by have:i<(en.l.take b.toNat).length:=hi;omega) hj)
        (fun i j t' hi hj=>by
          have hi':i<b.toNat:=by have:i<(en.l.take b.toNat).length:=hi;omega
          show Rep P w _ t' (u i j) (AD (en.l.take b.toNat) i j);rw[hpv i j hi'];exact hrep i j t' (by omega) hj)
      refine⟨_,β,_,w,.inl (run hva rfl hcap),q1,q2,q3,rfl,.inl ⟨d,one (.own e id),hd,rfl,Aj ?_,fun n _ hn=>by simpa[AV.names,one,AJ,AC.names]using hn⟩⟩;have hsl:(Value.slice (if cap=(0:Int).toNat then(some ⟨blk,0,none⟩:Option Addr)else(some (⟨blk,0,none⟩:Addr)).map (·.add ((0:Int).toNat*ts.length))) (b.toNat-(0:Int).toNat) (cap-(0:Int).toNat))=.slice (some ⟨blk,0,none⟩) b.toNat cap:=by
        split<;>simp[FP]
      rw[hsl];have:=L5 (P:=P) (n0:=n0) (β:=β) (w':=w) (T0:=T) (h:=hnew) (by show _=LK.sl en.e;rw[←he1];exact CS heT) q4 (BO σ id (some (blk,cap))) (n:=b.toNat) hbl.symm;rw[show hnew.e=e from he1.symm]at this;exact this
    have hl0:en.l=[]:=List.length_eq_zero_iff.1 hz;have hb0:b=0:=by have h2:=hb.2.2;rw[hl0]at h2;have:=hb.2.1;simp at h2;omega
    subst hb0;have hpre:PreOK s [(q,(none:Option (HEnt (std E N))))]:=fun n v hm=>by
      simp only[List.mem_singleton,Prod.mk.injEq]at hm;exact .inl hm.2
    obtain⟨q1,q2,q3,q4⟩:=qU hs.M hid hpre (h:=hnew) (wr:={ hs:=[(q,none)]++[(id,some hnew)] }) rfl rfl rfl rfl (by simp[hnew,hl0]) (by rw[he1]at ht;exact ht) (by rw[he1]at hts;exact hts);refine⟨_,β,_,w,.inl (run hva (by rw[hl0];rfl) (Nat.le_refl _)),q1,q2,q3,rfl,.inl ⟨d,one (.own e id),hd,rfl,Aj ?_,fun n _ hn=>by simpa[AV.names,one,AJ,AC.names]using hn⟩⟩;refine⟨⟨T,CS heT,_,_,_,rfl⟩,fun h2 hh2=>?_⟩;have hh3:some hnew=some h2:=q4.symm.trans hh2;cases hh3;exact⟨he1.symm,.inr ⟨BO _ _ _,by simp[hnew,hl0],av0,by simp⟩⟩
theorem AA2(hs:Sim P n0 nt β σ s a w){ctx:List (Nat×Bool)}(hf:Facts a ctx){id:Nat}{o:Oper}{T:TypeId}{x lo:Operand}(hop:o.op=.slice T x (some lo) none none)
    {c:AC0 E N} (hc:RelC P n0 β σ s w c (a.eval x)) (hcn:∀n,Fresh a s n→n∉c.names) {r:StepRes (std E N)} {m m':Nat} (h:RM.run s (dA P ctx o.dst T lo c) m=.ok (some r,m')):∃as wr,r=.plain as wr∧cw P n0 β σ s a w ctx o id as wr:=by
  unfold dA at h
  split at h
  case h_2=>cases zzc h
  rename_i e q e' d heT hd;obtain⟨m1,h0⟩:=zzf h;cases hh:s.getH q with
  |none=>rw[hh]at h0;exact(zzb h0).elim
  |some en=>
    rw[hh]at h0;simp only at h0
    split at h0
    case h_2=>cases zzc h0
    rename_i hg;simp only[zzk,Bool.not_eq_true']at hg;obtain⟨hfz,hg1,hg2⟩:=hg;have he1:=AE.1 hg1;have he2:=AE.1 hg2;subst he2;obtain⟨b,m2,h1,h2⟩:=zza h0;obtain⟨b,rfl⟩:∃j:Int,j=b:=⟨b,rfl⟩;have hr:=zzc h2;refine⟨_,_,(Option.some.inj hr).symm,fun has=>?_⟩;have hb:decide (0≤b∧b≤((List.length en.l:Nat):Int)∧((List.length en.l:Nat):Int)≤((List.length en.l:Nat):Int))=true:=has _ zzm;have hb:=of_decide_eq_true hb;obtain⟨k,hk⟩:=Y6 hs hf h1;have hu:=Qs heT
    rcases hs.M.H q en hh with⟨t,ts,ht,hts,hrl,hm⟩|hM
    case inr=>exact(hM.noSl (t:=T) (by rw[←he1];exact CS heT)).elim
    rw[←he1]at hts ht;have frn:FrOK s ([]:List (Nat×Option (HEnt (std E N)))):=fun n v hm=>by simp at hm
    have sub:=frn.sub (wr:={ hs:=[] }) rfl rfl;have run:∀{av:Option Addr} {cap:Nat},a.eval x=.slice av en.l.length cap→en.l.length≤cap→(execOp a.eval o).run P w=.ok (.value (.slice (if cap=b.toNat then av else av.map (·.add (b.toNat*ts.length))) (en.l.length-b.toNat) (cap-b.toNat))) w:=by
      intro av cap hv hcp;refine CQ (x:=Instr.sliceAt T (a.eval x) (some (a.eval lo)) none none) (by simp[execOp,hop]) ?_;rw[hv,hk];have:=gl (w:=w) hu (.inr ⟨k,rfl⟩) (.inl ⟨rfl,rfl⟩) hts hcp hb.1 hb.2.1 (Int.le_refl _) (av:=av);simpa using this
    obtain⟨_,hkk⟩:=hc;obtain⟨_,ho⟩:=hkk en hh;have fin:∀{z:Value},(execOp a.eval o).run P w=.ok (.value z) w→RelC P n0 β σ s w (.tail e q b:AC0 E N) z→∃z β' σ' w',((execOp a.eval o).run P w=.ok (.value z) w'∨((execOp a.eval o).run P w=.ok .skip w'∧z=undef))∧Mem P n0 β' σ' (s.apply { hs:=[] }) w'∧Ext P n0 (·=id) β σ s w β' σ' (s.apply { hs:=[] }) w'∧Tidy a (·=id) s (s.apply { hs:=[] })∧([]:List (Nat×Option (BEnt (std E N))))=[] ∧
        ((∃d' c,o.dst=some d'∧[(d,some (⟨ctx,one (.tail e q b:AC0 E N)⟩:TV (std E N)))]=[(d',some ⟨ctx,c⟩)]∧RelAV P n0 β' σ' (s.apply { hs:=[] }) w' c z∧∀n,Fresh a s n→n≠id→n∉c.names)∨(o.dst=none∧[(d,some (⟨ctx,one (.tail e q b:AC0 E N)⟩:TV (std E N)))]=[])):=fun{z} h1 h2=>
      ⟨z,β,σ,w,.inl h1,sub.mem hs.M,sub.ext P n0 _ β σ w,Tidy.of_sub frn.pre rfl rfl rfl _,rfl,.inl ⟨d,one _,hd,rfl,Aj ((sub.ext P n0 (fun _=>False) β σ w).relC (fun _ _ h=>h) h2),fun n hn _ hm=>hcn n hn (by simpa[AV.names,one,AJ,AC.names]using hm)⟩⟩
    rcases ho with⟨blk,cap,hsi,hva⟩|⟨hsi,hz,av0,hva⟩
    · rcases hm with⟨hn,_⟩|⟨blk',cap',cells,el,hs',hheap,hel,hsz,hcap,hnw,u,hu1,hrep⟩
      · rw[hn]at hsi;cases hsi
      rw[hs']at hsi;cases hsi;refine fin (run hva hcap) ⟨hb.1,⟨T,CS heT,_,_,_,rfl⟩,fun h2 hh2=>?_⟩;rw[hh]at hh2;cases hh2;refine⟨he1.symm,hb.2.1,_,_,rfl,?_⟩;have:=hb.2.1
      by_cases hq:en.l.length=b.toNat
      · exact .inl hq
      refine .inr ⟨blk,cap,ts,hts,hs',?_⟩;rw[if_neg (by omega)];simp[FP]
    have hl0:en.l=[]:=List.length_eq_zero_iff.1 hz;refine fin (run (av:=av0) (cap:=0) (by rw[hva,hz]) (by omega)) ⟨hb.1,⟨T,CS heT,_,_,_,rfl⟩,fun h2 hh2=>?_⟩;rw[hh]at hh2;cases hh2;have:=hb.2.1;exact⟨he1.symm,hb.2.1,_,_,rfl,.inl (by omega)⟩
theorem bE:∀{ts:List TypeId} {cs:List (AC0 E N)},Ai P ts cs=true→cs.length=ts.length
 | [],[],_=>rfl
 | [],_::_,h=>by simp[Ai]at h
 |_::_,[],h=>by simp[Ai]at h
 |t::ts,c::cs,h=>by
  simp only[Ai]at h
  split at h
  ·simp[bE h]
  cases h
theorem ACZ(hs:Sim P n0 nt β σ s a w){ctx:List (Nat×Bool)}{id:Nat}{o:Oper}{T:TypeId}{x:Operand}(hop:o.op=.call ⟨.builtin .clear,#[x],#[T]⟩)
    {c:AC0 E N} (hc:RelC P n0 β σ s w c (a.eval x)) {r:StepRes (std E N)} {m m':Nat} (h:RM.run s (rO P o.dst T c) m=.ok (some r,m')):∃as wr,r=.plain as wr∧cw P n0 β σ s a w ctx o id as wr:=by
  unfold rO at h
  split at h
  case h_2=>exact(zzb h).elim
  rename_i e q i e' heT hd;obtain⟨m1,h0⟩:=zzf h;cases hh:s.getH q with
  |none=>rw[hh]at h0;exact(zzb h0).elim
  |some en=>
    rw[hh]at h0;simp only at h0
    split at h0
    case h_2=>exact(zzb h0).elim
    rename_i z ts hz hts;obtain⟨_,m2,h1,h2⟩:=zza h0;obtain⟨⟨ls,fr,nw⟩,m3,h3,h4⟩:=zza h2;have hr:=zzc h4;have hg:=zzd h1;simp only[zzk,Bool.not_eq_true']at hg;obtain⟨⟨hfz,hg1,hg2⟩,hk,hsc⟩:=hg;have he1:=AE.1 hg1;have he2:=AE.1 hg2;subst he2;have hu:=Qs heT;obtain⟨hsz,hpos⟩:=C1 hts;obtain⟨ti,v,hi',hiz,hzv,hrz,hnz,hoz⟩:=HQ (n0:=n0) (β:=β) (σ:=σ) (s:=s) (w:=w) hz;obtain⟨rfl,rfl⟩:=Vr hsc h3;have frn:FrOK s ([]:List (Nat×Option (HEnt (std E N)))):=fun n v hm=>by simp at hm
    obtain⟨_,_,hll,hlf⟩:=VZ hs.M hrz.1 h3;have hk1:Ai P ts z.cs=true:=by
      simp only[Lc]at hk
      split at hk
      · assumption
      cases hk
    have hzl:z.cs.length=ts.length:=bE hk1;have hvl:v.cells.size=ts.length:=by have:=RelCs.length hrz.1;simp at this;omega
    have htz:ti.size=ts.length:=by rw[←hsz];simp[Program.cellsOf,hi']
    obtain⟨i,rfl⟩:∃j:Int,j=i:=⟨i,rfl⟩;obtain⟨i0,_,hkk⟩:=hc;obtain⟨_,hin,av,cap,hva,hor⟩:=hkk en hh;have hin:i≤((List.length en.l:Nat):Int):=hin;have i0:(0:Int)≤i:=i0;have hiN:i.toNat≤en.l.length:=by omega
    rcases hs.M.H q en hh with⟨t,ts2,ht,hts2,hrl,hm⟩|hM
    case inr=>exact(hM.noSl (t:=T) (by rw[←he1];exact CS heT)).elim
    rw[←he1,hts]at hts2;cases hts2
    let zr:List PV:=ls.map Leaf.pv
    let nl:Rows:=en.l.take i.toNat++List.replicate (en.l.length-i.toNat) zr
    let hnew:HEnt (std E N):={ en with l:=nl,dirty:=true }
    have hnl:nl.length=en.l.length:=by simp[nl];omega
    have hlist:(std E N).ac ((std E N).ai en.l ((std E N).lit .i64 0) i) ((std E N).am ((std E N).l ((std E N).ai en.l i ((std E N).l en.l))) ls)=nl:=by
      show((en.l.take i.toNat).drop (0:Int).toNat)++List.replicate ((((en.l.take ((en.l.length:Nat):Int).toNat).drop i.toNat).length:Nat):Int).toNat (ls.map Leaf.pv)=nl;simp[nl,zr]
    have hrr:r=.plain [] { hs:=[(q,some hnew)] }:=by
      have:=(Option.some.inj hr).symm;rw[this];show StepRes.plain [] { hs:=[(q,some { en with l:=(std E N).ac ((std E N).ai en.l ((std E N).lit .i64 0) i) ((std E N).am ((std E N).l ((std E N).ai en.l i ((std E N).l en.l))) ls),dirty:=true })] }=_;rw[hlist]
    refine⟨_,_,hrr,fun has=>?_⟩;have hex:(execOp a.eval o)=(do pure (.value (←Builtin.clear_ #[T] o.type #[a.eval x]))):=by
      simp[execOp,hop,resolve,invoke,builtin]
    have hrowl:∀r∈nl,r.length=ts.length:=fun r hr=>by
      rcases List.mem_append.1 hr with h|h
      · exact hrl r (List.mem_of_mem_take h)
      rw[List.eq_of_mem_replicate h];simp[zr];omega
    by_cases hq:en.l.length=i.toNat
    ·
      have hne:nl=en.l:=by simp[nl,hq,List.take_of_length_le (Nat.le_of_eq hq)]
      have hrun:(Builtin.clear_ #[T] o.type #[a.eval x]).run P w=.ok (.tuple #[]) w:=by
        rw[hva,hq,Nat.sub_self];cases av<;>simp[Builtin.clear_,run_underlying hu]
      obtain⟨q1,q2,q3⟩:=ed (a:=a) hs.M hh hfz (h:=hnew) (wr:={ hs:=[(q,some hnew)] }) (w':=w) rfl rfl rfl rfl hfz rfl (fun _=>hnl) rfl rfl rfl rfl (fun _ _=>rfl)
        (fun x=>by
          rcases hs.M.H q en hh with⟨t,ts,a1,a2,a3,a4⟩|hM
          case inr=>exact(hM.noSl (t:=T) (by rw[←he1];exact CS heT)).elim
          refine .inl ⟨t,ts,a1,a2,by show∀r∈nl,_;rw[hne];exact a3,?_⟩
          rcases a4 with⟨b1,b2⟩|⟨blk,cap,cells,el,b1,b2,b3,b4,b5,b6,vv,b7,b8⟩
          · exact .inl ⟨b1,by show nl=_;rw[hne];exact b2⟩
          refine .inr ⟨blk,cap,cells,el,b1,b2,b3,b4,by show nl.length≤_;rw[hne];exact b5,b6,vv,by show∀i j,i<nl.length→_;rw[hne];exact b7,fun i j t' h1 h2=>?_⟩;show Rep P w _ t' (vv i j) (AD nl i j);rw[hne];exact x.rep (b8 i j t' (by have h1:i<nl.length:=h1;rwa[hne]at h1) h2))
      exact⟨.tuple #[],β,σ,w,.inl (by rw[hex];simp[hrun]),q1,q2.weaken (fun _ h=>h.elim),q3.weaken (fun _ h=>h.elim),rfl,.inr ⟨hd,rfl⟩⟩
    rcases hor with hor|⟨blk,cap2,ts3,hts3,hsq,hav⟩
    · exact(hq hor).elim
    rw[hts]at hts3;cases hts3
    rcases hm with⟨hn,_⟩|⟨blk',cap',cells,el,hs',hheap,hel,hsz2,hcap,hnw,u,hu1,hrep⟩
    · rw[hn]at hsq;cases hsq
    rw[hs']at hsq;cases hsq
    let n:=en.l.length-i.toNat
    have hnpos:0<n:=by show 0<en.l.length-i.toNat;omega
    let us:List Value:=(Builtin.zeroCells v.cells n).toList
    have husl:us.length=n*ts.length:=by simp[us,size_zeroCells,hvl]
    have hget:∀k,k<n*ts.length→us[k]?=v.cells[k%ts.length]?:=fun k hk=>by
      have h1:k<(Builtin.zeroCells v.cells n).size:=by rw[size_zeroCells,hvl];exact hk
      simp only[us,Array.getElem?_toList];rw[Array.getElem?_eq_getElem h1];simp only[Builtin.zeroCells,Array.getElem_map,Array.getElem_range,hvl];rw[Array.getElem?_eq_getElem (by rw[hvl];exact Nat.mod_lt _ hpos)];simp[Nat.mod_lt _ hpos,hvl]
    have hone:∀x∈us,x.oneCell'=true:=fun x hx=>by
      obtain⟨k,hk⟩:=List.getElem?_of_mem hx;have hklt:k<n*ts.length:=by rw[←husl];exact(List.getElem?_eq_some_iff.1 hk).1
      rw[hget k hklt]at hk;exact hrz.1.one x (by rw[Array.mem_toList_iff];exact Array.mem_of_getElem? hk)
    have hle:i.toNat*ts.length+us.length≤cells.size:=by
      rw[husl,hsz2,←Nat.add_mul];exact Nat.mul_le_mul_right _ (by show i.toNat+(en.l.length-i.toNat)≤cap2;omega)
    have hst:=run_storeCells_at (P:=P) blk (i.toNat*ts.length) el us 0 cells w hheap (by simpa using hle) hone
    let w2:=w.setRow blk (laid cells (i.toNat*ts.length) us)
    have hrun:(Builtin.clear_ #[T] o.type #[a.eval x]).run P w=.ok (.tuple #[]) w2:=by
      rw[hva,hav];obtain⟨n',hn'⟩:∃n',en.l.length-i.toNat=n'+1:=⟨en.l.length-i.toNat-1,by omega⟩;have hst2:(storeCells ⟨blk,i.toNat*ts.length,none⟩ (Builtin.zeroCells v.cells (n'+1)).toList).run P w=.ok () w2:=by
        have:us=(Builtin.zeroCells v.cells (n'+1)).toList:=by show(Builtin.zeroCells v.cells (en.l.length-i.toNat)).toList=_;rw[hn']
        rw[←this];simpa[w2,laid,List.append_assoc]using hst
      rw[hn'];simp[Builtin.clear_,run_underlying hu,hzv,hst2]
    have hpl:∀i' j,i'<i.toNat→AD nl i' j=AD en.l i' j:=fun i' j h=>by
      simp only[AD,AB,List.getD,nl];rw[List.getElem?_append_left (by rw[List.length_take];omega),List.getElem?_take,if_pos h]
    have hpr:∀i' j,i.toNat≤i'→i'<en.l.length→AD nl i' j=AA zr j:=fun i' j h1 h2=>by
      simp only[AD,AB,List.getD,nl];rw[List.getElem?_append_right (by rw[List.length_take];omega)];rw[List.length_take,List.getElem?_replicate,if_pos (by omega)];rfl
    have hs1:∀b,(∀cap,σ q≠some (b,cap))→w2.heap[b]?=w.heap[b]?:=fun b hb=>setRow_other w blk b _ (fun e=>hb cap2 (e▸hs'))
    obtain⟨q1,q2,q3⟩:=ed (a:=a) hs.M hh hfz (h:=hnew) (wr:={ hs:=[(q,some hnew)] }) (w':=w2) rfl rfl rfl rfl hfz rfl (fun _=>hnl) rfl rfl rfl (by simp[w2]) hs1
      (fun xx=>by
        refine .inl ⟨t,ts,ht,by rw[←hts,he1],hrowl,.inr ⟨blk,cap2,laid cells (i.toNat*ts.length) us,el,hs',setRow_heap w blk cells _ _ _ hheap,hel,by rw[pS hle];exact hsz2,by show nl.length≤cap2;rw[hnl];exact hcap,hnw,
          fun i' j=>if i.toNat≤i' then v.cells.getD j undef else u i' j,fun i' j hi' hj=>?_,fun i' j t' hi' hj=>?_⟩⟩
        · have hi2:i'<en.l.length:=by have:i'<nl.length:=hi';omega
          rw[th hle]
          by_cases hc:i.toNat≤i'
          · have h1:i.toNat*ts.length≤i'*ts.length:=Nat.mul_le_mul_right _ hc;have h2:i'*ts.length+j<i.toNat*ts.length+us.length:=by
              rw[husl,←Nat.add_mul];have:(i'+1)*ts.length≤(i.toNat+n)*ts.length:=Nat.mul_le_mul_right _ (by show i'+1≤i.toNat+(en.l.length-i.toNat);omega);rw[Nat.add_mul,Nat.one_mul]at this;omega
            rw[if_pos ⟨by omega,h2⟩];simp only[hc,if_true];have e2:i'*ts.length+j-i.toNat*ts.length=(i'-i.toNat)*ts.length+j:=by rw[Nat.sub_mul];omega
            have h3:(i'-i.toNat)*ts.length+j<n*ts.length:=by
              have:(i'-i.toNat+1)*ts.length≤n*ts.length:=Nat.mul_le_mul_right _ (by show i'-i.toNat+1≤en.l.length-i.toNat;omega);rw[Nat.add_mul,Nat.one_mul]at this;omega
            rw[e2,hget _ h3,Nat.add_comm,Nat.mul_comm,Nat.add_mul_mod_self_left,Nat.mod_eq_of_lt hj];simp[hvl,hj]
          have h1:(i'+1)*ts.length≤i.toNat*ts.length:=Nat.mul_le_mul_right _ (by omega);rw[Nat.add_mul,Nat.one_mul]at h1;rw[if_neg (by omega)];simp only[hc,if_false];exact hu1 i' j hi2 hj
        have hi2:i'<en.l.length:=by have:i'<nl.length:=hi';omega
        have hj':j<ts.length:=(List.getElem?_eq_some_iff.1 hj).1;show Rep P w2 _ t' (if i.toNat≤i' then v.cells.getD j undef else u i' j) (AD nl i' j)
        by_cases hc:i.toNat≤i'
        · rw[if_pos hc,hpr i' j hc hi2];have:=hlf ts (s.apply { hs:=[] }) hk1 (frn.sub rfl rfl) (frn.frz rfl) true (fun h=>h) j t' (v.cells.getD j undef) hj (by simp[hvl,hj']);have hgo:Rep P w (StB n0 β σ s hnew.nw) t' (v.cells.getD j undef) (AA zr j):=by
            refine Rep.mono (w':=w) (St':=StB n0 β σ s hnew.nw) this (fun b _ hlt=>⟨.inl rfl,hlt⟩) (fun b hb hlt=>?_);refine⟨fun hm=>hb.1 ?_,hb.2.mono (fun _=>rfl)⟩
            rcases hm with⟨n,e,he,hb⟩|⟨n,e,cap3,he,hf,hb⟩
            · exact .inl ⟨n,e,by rw[State.getB_apply0 s _ rfl];exact he,hb⟩
            exact .inr ⟨n,e,cap3,by rw[State.getH_apply0 s _ rfl];exact he,hf,hb⟩
          exact xx.rep hgo
        rw[if_neg hc,hpl i' j (by omega)];exact xx.rep (hrep i' j t' hi2 hj))
    exact⟨.tuple #[],β,σ,w2,.inl (by rw[hex];simp[hrun]),q1,q2.weaken (fun _ h=>h.elim),q3.weaken (fun _ h=>h.elim),rfl,.inr ⟨hd,rfl⟩⟩
theorem yC{cfg:Cfg}{o:Oper}{sp:Spec}(h:PB cfg o.op=some sp):0<Bn P o:=by
 unfold PB at h
 split at h
 all_goals first|(rename_i hop;unfold Bn;rw[hop];exact Nat.one_pos)|(rename_i hop;unfold Bn;rw[hop];exact Nat.succ_pos 15)|cases h
theorem Yv{T:TypeId}{n q:Nat}{c:AC0 E N}{en:HEnt (std E N)}{m m':Nat}(h:RM.run s (Vv P T n c) m=.ok ((q,en),m')) :
    ∃e,c=.mp e q∧s.getH q=some en∧en.frozen=false∧e=DP P n∧Mc P T n=true:=by
  unfold Vv at h
  split at h
  · rename_i e q';obtain⟨m1,h0⟩:=zzf h;cases hh:s.getH q' with
    |none=>rw[hh]at h0;exact(zzb h0).elim
    |some en'=>
      rw[hh]at h0;simp only at h0
      split at h0
      · rename_i hg;have:=zzc h0;cases this;simp only[zzk,Bool.not_eq_true']at hg;exact⟨e,rfl,hh,hg.1,AE.1 hg.2.1.1,hg.2.2⟩
      exact(zzb h0).elim
  exact(zzb h).elim
theorem ii(hs:Sim P n0 nt β σ s a w){ctx:List (Nat×Bool)}(hf:Facts a ctx){T:TypeId}{n:Nat}{k:Operand}{ks:List Int}{m m':Nat}(h:RM.run s (UN P ctx T n k) m=.ok (ks,m')) :
    ∃kv,RelVal P n0 β σ s w kv (a.eval k)∧Zx (O:=std E N) (n.testBit 4) kv=some ks∧ks.length=n%16:=by
  obtain⟨kv,m1,h1,h2⟩:=zza h;obtain⟨ks',m2,h3,h4⟩:=zza h2;obtain⟨_,m3,h5,h6⟩:=zza h4;cases zzc h6;exact⟨kv,(LI hs hf h1).1,zzh h3,AE.1 (zzd h5)⟩
theorem iY{c:AC0 E N}{z:Int}{m m':Nat}(h:RM.run s (kF c) m=.ok (z,m')):c=.int .i64 z:=by
 unfold kF at h
 split at h
 ·rw[zzc h]
 exact(zzb h).elim
theorem nF{T:TypeId}{m:Nat}(h:Mc P T m=true):ValT P m (Kl P T).2:=by
 obtain⟨K,V,hT,_,hV,_⟩:=OG h;unfold Kl;rw[hT];exact hV
theorem fx{info:TypeId→Option TypeInfo}{fs:Array Field}{i:TypeInfo}(h:Made.reckonStruct info fs=some i):∃o,i.desc=.struct o:=by
 unfold Made.reckonStruct at h;obtain⟨r,_,h⟩:=Option.bind_eq_some_iff.1 h;simp only[pure]at h
 repeat' split at h
 all_goals (cases h;exact⟨_,rfl⟩)
theorem uL{info:TypeId→Option TypeInfo}{d:TypeDesc}{i:TypeInfo}{e:TypeId}(h:Made.reckon info d=some i)(hd:i.desc=.slice e):∃j,info e=some j:=by
 cases d with
 |slice e'=>
  obtain⟨j,hj,h⟩:=Option.bind_eq_some_iff.1 h;obtain⟨s,_,h⟩:=Option.bind_eq_some_iff.1 h;cases h;cases hd;exact⟨j,hj⟩
 |struct fs=>obtain⟨o,ho⟩:=fx h;rw[ho]at hd;cases hd
 |pointer e'=>
  obtain⟨j,hj,h⟩:=Option.bind_eq_some_iff.1 h;simp only at h
  repeat' split at h
  all_goals first|(cases h;done)|(obtain⟨s,_,h⟩:=Option.bind_eq_some_iff.1 h;cases h;cases hd)
 |map k e'=>
  obtain⟨j,hj,h⟩:=Option.bind_eq_some_iff.1 h;obtain⟨j,hj,h⟩:=Option.bind_eq_some_iff.1 h;obtain⟨j,hj,h⟩:=Option.bind_eq_some_iff.1 h;obtain⟨j,hj,h⟩:=Option.bind_eq_some_iff.1 h;cases h;cases hd
 |chan c e'=>
  obtain⟨j,hj,h⟩:=Option.bind_eq_some_iff.1 h;obtain⟨j,hj,h⟩:=Option.bind_eq_some_iff.1 h;cases h;cases hd
 |func ps rs v=>
  obtain⟨j,hj,h⟩:=Option.bind_eq_some_iff.1 h;cases h;cases hd
 |array n e'=>
  obtain⟨j,hj,h⟩:=Option.bind_eq_some_iff.1 h;obtain⟨s,hs,h⟩:=Option.bind_eq_some_iff.1 h;cases h;cases hd
 |_=>cases h
theorem ADD{n:Nat}(h:noSl P (DP P n)=true)(hn:n<200)(hlt:DP P n<ptB)(t:TypeId):AL P t≠.sl (DP P n):=fun hc=>by
 have hu:=xY hc hlt;unfold noSl at h;rw[List.all_eq_true]at h;have none:∀f,Made.infoAt P.toTables f (DP P n)=none:=fun f=>by
  cases f with
  |zero=>rfl
  |succ f=>
   unfold Made.infoAt;have h1:¬DP P n<P.toTables.types.size:=by unfold DP;show¬P.types.size+2+n<P.types.size;omega
   rw[if_neg h1];have h2:DP P n-P.toTables.types.size=2+n:=by unfold DP;show P.types.size+2+n-P.types.size=2+n;omega
   rw[h2];have h3:Made.decode (2+n)=none:=by
    have:Made.unpack (2+n)=none:=by
     unfold Made.unpack;rw[show 2+n+1=(n+1)+1+1 by omega];simp only[Made.unpackFrom];rw[if_neg (by omega),if_neg (by omega),if_neg (by omega),show(2+n) / 257=0 by omega];simp
    unfold Made.decode;rw[this];rfl
   rw[h3];rfl
 have key:∀(u:TypeId) (i:TypeInfo),P.info? u=some i→i.desc=.slice (DP P n)→False:=fun u i hi hd=>by
  unfold Tables.info? at hi
  split at hi
  ·have hm:i∈P.types.toList:=by
    rw[Array.mem_toList_iff];exact Array.mem_of_getElem? hi
   have:=h i hm;rw[hd]at this;simp only[Bool.not_eq_true',AE.2 rfl]at this;cases this
  rename_i hlt;unfold Made.depth Made.infoAt at hi;rw[if_neg hlt]at hi;obtain⟨d,_,h2⟩:=Option.bind_eq_some_iff.1 hi;obtain⟨j,hj⟩:=uL h2 hd;rw[none]at hj;cases hj
 unfold Program.underlying at hu
 split at hu
 ·rename_i u _ _ _ _ _ _ _ _ _ _;cases hi:P.info? u with
  |none=>rw[hi]at hu;cases hu
  |some i=>rw[hi]at hu;exact key u i hi (Option.some.inj hu)
 ·rename_i i _ hi;exact key t i hi (Option.some.inj hu)
 cases hu
theorem zW(hs:Sim P n0 nt β σ s a w){ctx:List (Nat×Bool)}(hf:Facts a ctx){id:Nat}{o:Oper}{args:Array Operand}{tys:Array TypeId}{x y:Operand}{T U:TypeId}
    (ho:o.op=.call ⟨.builtin .append,args,tys⟩) (ha:args.toList=[x,y]) (ht:tys.toList=[T,U]) {r:StepRes (std E N)} {m m':Nat}
    (h:RM.run s (PC P ctx id o.dst (.qapp T U x y)) m=.ok (some r,m')):∃as wr,r=.plain as wr∧cw P n0 β σ s a w ctx o id as wr:=by
  unfold PC at h;simp only at h
  split at h
  case h_2=>cases zzc h
  obtain⟨c,m1,h1,h2⟩:=zza h;obtain⟨b,m2,h3,h4⟩:=zza h2;unfold un at h4
  split at h4
  case h_2=>cases zzc h4
  rename_i e d n q mm he hd
  split at h4
  case h_2=>exact(zzb h4).elim
  rename_i ti zz hi hz;obtain⟨m3,h5⟩:=zzg h4;cases hq:s.getB q with
  |none=>rw[hq]at h5;exact(zzb h5).elim
  |some en=>
    rw[hq]at h5;obtain⟨_,m4,h6,h7⟩:=zza h5;have hg:=zzd h6;simp only[zzk]at hg;have hTU:=AE.1 hg.1.1;subst hTU;refine⟨_,_,(Option.some.inj (zzc h7)).symm,fun has=>?_⟩;obtain⟨z,w',r1,r2,r3,r4⟩:=ABV hs (ty:=o.type) he hi hz (AE.1 hg.1.2) (B9 hs hf h1).1 (B9 hs hf h3).1 hq (Nat.le_of_ble_eq_true hg.2.1) (A5.1 hg.2.2.1) (Nat.le_of_ble_eq_true hg.2.2.2)
      (has _ zzm) (has _ (zzn _ zzm))
    have ha':args=#[x,y]:=by apply Array.ext';simpa using ha
    have ht':tys=#[T,T]:=by apply Array.ext';simpa using ht
    subst ha';subst ht';have hex:execOp a.eval o=(do pure (.value (←Builtin.append_ #[T,T] o.type #[a.eval x,a.eval y]))):=by simp[execOp,ho,resolve,invoke,builtin]
    have frn:FrOK s ([]:List (Nat×Option (HEnt (std E N)))):=fun n v hm=>by simp at hm
    have sub:=frn.sub (wr:={ hs:=[] }) rfl rfl;have xs:=sub.ext P n0 (fun _=>False) β σ w';exact⟨z,β,σ,w',.inl (LE hex r1),sub.mem r2,(r3.trans xs).weaken (fun _ h=>(h.elim (fun h=>h) (fun h=>h)).elim),Tidy.of_sub frn.pre rfl rfl rfl _,rfl,
      .inl ⟨d,_,hd,rfl,Aj ⟨T,(dK he).2.1,xs.rep r4⟩,fun n _ hn=>by simp[AV.names,one,AJ,AC.names]⟩⟩
theorem zt{cfg:Cfg}(hs:Sim P n0 nt β σ s a w){ctx:List (Nat×Bool)}(hf:Facts a ctx){id:Nat}(hid:Fresh a s id){o:Oper}{sp:Spec}(hop:PB cfg o.op=some sp)
    {r:StepRes (std E N)} {m m':Nat} (h:RM.run s (PC P ctx id o.dst sp) m=.ok (some r,m')):∃as wr,r=.plain as wr∧cw P n0 β σ s a w ctx o id as wr:=by
  unfold PB at hop
  split at hop
  · rename_i T x lo hi ho
    split at hop
    · rename_i hg;cases hop;simp only[zzk]at hg;obtain⟨c,m1,h1,h2⟩:=zza h;exact zR hs hf hid ho hg.2 (B9 hs hf h1).1 h2
    cases hop
  · rename_i T x lo ho
    split at hop
    · cases hop;obtain⟨c,m1,h1,h2⟩:=zza h;obtain⟨e1,_,e2⟩:=B9 hs hf h1;exact AA2 hs hf ho e1 e2 h2
    cases hop
  · rename_i args tys ho
    split at hop
    · rename_i x T ha ht;cases hop;obtain⟨c,m1,h1,h2⟩:=zza h;have ha':args=#[x]:=by apply Array.ext';simpa using ha
      have ht':tys=#[T]:=by apply Array.ext';simpa using ht
      subst ha';subst ht';exact ACZ hs ho (B9 hs hf h1).1 h2
    cases hop
  · rename_i args tys ho
    split at hop
    · rename_i x y T U ha ht;cases hop;exact zW hs hf ho ha ht h
    cases hop
  · rename_i T ho;cases hop
    replace h:RM.run s (sI P ctx id o.dst T (mapM P T)) m=.ok (some r,m'):=h
    unfold sI at h
    split at h
    case h_2=>exact(zzb h).elim
    rename_i d hd hg;simp only[zzk]at hg;refine⟨_,_,(Option.some.inj (zzc h)).symm,fun _=>?_⟩;obtain⟨v,σ',w',r1,r2,r3,r4,r5⟩:=AFd hs hid ho (ADD hg.2.1 (Nat.le_of_ble_eq_true hg.2.2.1) (A5.1 hg.2.2.2)) hg.1;exact⟨v,β,σ',w',.inl r1,r2,r3,r4,rfl,.inl ⟨d,_,hd,rfl,Aj r5,fun n _ hn=>by simpa[AV.names,one,AJ,AC.names]using hn⟩⟩
  · rename_i T mm k v ho;cases hop;obtain⟨c,m1,h1,h2⟩:=zza h;obtain⟨ks,m2,h3,h4⟩:=zza h2;obtain⟨x,m3,h5,h6⟩:=zza h4;obtain⟨kv,k1,k2,k3⟩:=ii hs hf h3;unfold yM at h6
    split at h6
    · rename_i hd hb;obtain⟨z,m4,h7,h8⟩:=zza h6;obtain⟨⟨q,en⟩,m5,h9,h10⟩:=zza h8;obtain⟨e,rfl,hh,hfz,he,hmb⟩:=Yv h9;have hx:=iY h7;subst hx;refine⟨_,_,(Option.some.inj (zzc h10)).symm,fun _=>?_⟩;have hV:=nF hmb;have hi:AL P (Kl P T).2=.int .i64:=by unfold ValT at hV;rw[hb]at hV;exact hV
      have hxv:a.eval v=.int .i64 z:=(B9 hs hf h5).1;obtain⟨w',r1,r2,r3,r4⟩:=AAq hs ho (p:=.int z) (B9 hs hf h1).1 k1 k2 k3 hV (by rw[hxv];exact .int hi) hh hfz he hmb rfl;exact⟨undef,β,σ,w',.inr ⟨r1,rfl⟩,r2,r3.weaken (fun _ h=>h.elim),r4.weaken (fun _ h=>h.elim),rfl,.inr ⟨hd,rfl⟩⟩
    · rename_i hd hb;obtain⟨⟨as,l,nw⟩,m4,h7,h8⟩:=zza h6;obtain⟨⟨q,en⟩,m5,h9,h10⟩:=zza h8;obtain⟨_,m6,h11,h12⟩:=zza h10;obtain⟨e,rfl,hh,hfz,he,hmb⟩:=Yv h9;have hg:=zzd h11;refine⟨_,_,(Option.some.inj (zzc h12)).symm,fun has=>?_⟩;have hV:=nF hmb;have hrep:=(ADj (B9 hs hf h5).1 h7 has).st (St':=StB n0 β σ s en.nw) (fun b hb=>⟨hb.1,hb.2.mono (fun e=>by rw[e]at hg;simpa using hg)⟩);obtain⟨w',r1,r2,r3,r4⟩:=AAq hs ho (p:=.rows l) (B9 hs hf h1).1 k1 k2 k3 hV hrep hh hfz he hmb rfl;exact⟨undef,β,σ,w',.inr ⟨r1,rfl⟩,r2,r3.weaken (fun _ h=>h.elim),r4.weaken (fun _ h=>h.elim),rfl,.inr ⟨hd,rfl⟩⟩
    exact(zzb h6).elim
  · rename_i T mm k ho;cases hop;obtain⟨c,m1,h1,h2⟩:=zza h;obtain⟨ks,m2,h3,h4⟩:=zza h2;obtain⟨kv,k1,k2,k3⟩:=ii hs hf h3;have frn:FrOK s ([]:List (Nat×Option (HEnt (std E N)))):=fun n v hm=>by simp at hm
    have sub:=frn.sub (wr:={ hs:=[] }) rfl rfl;unfold aH at h4
    split at h4
    case h_2=>exact(zzb h4).elim
    rename_i d hd;obtain⟨⟨q,en⟩,m5,h9,h10⟩:=zza h4;obtain⟨v,m6,h11,h12⟩:=zza h10;have hv:=zzh h11;obtain⟨e,rfl,hh,hfz,he,hmb⟩:=Yv h9;refine⟨_,_,(Option.some.inj (zzc h12)).symm,fun _=>?_⟩;obtain⟨z,run,hz1,hz2⟩:=AC9 hs (T:=T) (k:=k) (B9 hs hf h1).1 k1 k2 k3 hh he hmb;have hV:=nF hmb;have hz:RelC P n0 β σ s w v z∧v.names=[]:=by
      unfold vg at hv;unfold ValT at hV
      split at hv
      · rename_i hb;cases hv;exact⟨hz1 hb,rfl⟩
      · rename_i e2 hb hl;cases hv;rw[hb]at hV;obtain⟨e3,h5,h6⟩:=hV;rw[hl]at h5;cases h5;exact⟨hz2 _ _ hb hl h6,rfl⟩
      cases hv
    exact⟨z,β,σ,w,.inl (CQ (x:=Instr.lookup T (a.eval mm) (a.eval k) false) (by simp[execOp,ho]) run),sub.mem hs.M,sub.ext P n0 _ β σ w,Tidy.of_sub frn.pre rfl rfl rfl _,rfl,
      .inl ⟨d,_,hd,rfl,Aj ((sub.ext P n0 (fun _=>False) β σ w).relC (fun _ _ h=>h) hz.1),fun n _ hn=>by simp[AV.names,one,AJ,hz.2]⟩⟩
  · rename_i T mm k ho;cases hop;obtain⟨c,m1,h1,h2⟩:=zza h;obtain⟨ks,m2,h3,h4⟩:=zza h2;obtain⟨kv,k1,k2,k3⟩:=ii hs hf h3;unfold lM at h4
    split at h4
    case h_2=>exact(zzb h4).elim
    rename_i d hd hb;obtain⟨⟨q,en⟩,m5,h9,h10⟩:=zza h4;obtain⟨e,rfl,hh,hfz,he,hmb⟩:=Yv h9;refine⟨_,_,(Option.some.inj (zzc h10)).symm,fun _=>?_⟩;obtain⟨w',r1,r2,r3,r4⟩:=AEp hs ho (B9 hs hf h1).1 k1 k2 k3 hb hh hfz he hmb rfl;exact⟨_,β,σ,w',.inl r1,r2,r3.weaken (fun _ h=>h.elim),r4.weaken (fun _ h=>h.elim),rfl,.inl ⟨d,_,hd,rfl,⟨_,rfl,Tq rfl,Tq rfl,trivial⟩,fun n _ hn=>by simp[AV.names,B7,AJ,AC.names]⟩⟩
  · rename_i T mm x v ho;cases hop;obtain⟨c,m1,h1,h2⟩:=zza h;obtain⟨x1,m2,h3,h4⟩:=zza h2;obtain⟨i,m3,h5,h6⟩:=zza h4;obtain⟨y1,m4,h7,h8⟩:=zza h6;obtain⟨z,m5,h9,h10⟩:=zza h8;unfold xz at h10
    split at h10
    case h_2=>exact(zzb h10).elim
    rename_i hd hb;obtain⟨⟨q,en⟩,m6,h11,h12⟩:=zza h10;obtain⟨e,rfl,hh,hfz,he,hmb⟩:=Yv h11;have hx:=iY h5;subst hx;have hy:=iY h9;subst hy;refine⟨_,_,(Option.some.inj (zzc h12)).symm,fun has=>?_⟩;obtain⟨w',r1,r2,r3,r4⟩:=AE2 hs ho (B9 hs hf h1).1 (B9 hs hf h3).1 (B9 hs hf h7).1 hb hh hfz he (has _ zzm) rfl;exact⟨undef,β,σ,w',.inr ⟨r1,rfl⟩,r2,r3.weaken (fun _ h=>h.elim),r4.weaken (fun _ h=>h.elim),rfl,.inr ⟨hd,rfl⟩⟩
  cases hop
theorem Oo{cfg:Cfg}{ctx:List (Nat×Bool)}{g:Option Bool}{o:Oper}{id:Nat}{r:StepRes (std E N)}{m m':Nat}
    (h:RM.run s (rh P cfg ctx g o id) m=.ok (r,m')) :
    (∃sp m1,g=none∧PB cfg o.op=some sp∧RM.run s (PC P ctx id o.dst sp) m=.ok (some r,m1))∨∃m1,RM.run s (XC P cfg ctx g o id) m1=.ok (r,m'):=by
  unfold rh at h
  split at h
  · rename_i sp hsp;obtain⟨x,m1,h1,h2⟩:=zza h;cases x with
    |some r'=>
      have:=zzc h2;subst this;exact .inl ⟨sp,m1,rfl,hsp,h1⟩
    |none=>exact .inr ⟨m1,h2⟩
  exact .inr ⟨m,h⟩
theorem Vy{ctx:List (Nat×Bool)}{id:Nat}{d:Option Nat}{sp:Spec}{r:StepRes (std E N)}{m m':Nat}(h:RM.run s (PC P ctx id d sp) m=.ok (some r,m')):∃as wr,r=.plain as wr:=by
 have take:∀{T:TypeId} {hi:Operand} {c:AC0 E N} {m:Nat},RM.run s (fC P ctx id d T hi c) m=.ok (some r,m')→∃as wr,r=.plain as wr:=fun{T hi c m} h=>by
  unfold fC at h
  split at h
  ·obtain⟨m1,h0⟩:=zzf h
   split at h0
   ·split at h0
    ·obtain⟨b,m2,h1,h2⟩:=zza h0;exact⟨_,_,(Option.some.inj (zzc h2)).symm⟩
    cases zzc h0
   exact(zzb h0).elim
  cases zzc h
 have tail:∀{T:TypeId} {lo:Operand} {c:AC0 E N} {m:Nat},RM.run s (dA P ctx d T lo c) m=.ok (some r,m')→∃as wr,r=.plain as wr:=fun{T lo c m} h=>by
  unfold dA at h
  split at h
  ·obtain⟨m1,h0⟩:=zzf h
   split at h0
   ·split at h0
    ·obtain⟨b,m2,h1,h2⟩:=zza h0;exact⟨_,_,(Option.some.inj (zzc h2)).symm⟩
    cases zzc h0
   exact(zzb h0).elim
  cases zzc h
 cases sp with
 |qapp T U x y=>
  unfold PC at h;simp only at h
  split at h
  case h_2=>cases zzc h
  obtain⟨_,_,_,h⟩:=zza h;obtain⟨_,_,_,h⟩:=zza h;unfold un at h
  split at h
  case h_2=>cases zzc h
  split at h
  case h_2=>exact(zzb h).elim
  obtain⟨_,h⟩:=zzg h
  split at h
  ·obtain⟨_,_,_,h⟩:=zza h;exact⟨_,_,(Option.some.inj (zzc h)).symm⟩
  exact(zzb h).elim
 |take T x hi=>obtain⟨c,m1,h1,h2⟩:=zza h;exact take h2
 |tail T x lo=>obtain⟨c,m1,h1,h2⟩:=zza h;exact tail h2
 |clr T x=>
  obtain⟨c,m1,h1,h2⟩:=zza h;unfold rO at h2
  split at h2
  ·obtain⟨m1,h0⟩:=zzf h2
   split at h0
   ·split at h0
    ·obtain⟨_,m2,h3,h4⟩:=zza h0;obtain⟨_,m3,h5,h6⟩:=zza h4;exact⟨_,_,(Option.some.inj (zzc h6)).symm⟩
    exact(zzb h0).elim
   exact(zzb h0).elim
  exact(zzb h2).elim
 |mkMap T=>
  replace h:RM.run s (sI P ctx id d T (mapM P T)) m=.ok (some r,m'):=h
  unfold sI at h
  split at h
  ·exact⟨_,_,(Option.some.inj (zzc h)).symm⟩
  exact(zzb h).elim
 |mapUpd T mm k v=>
  obtain⟨_,_,_,h⟩:=zza h;obtain⟨_,_,_,h⟩:=zza h;obtain⟨_,_,_,h⟩:=zza h;unfold yM at h
  split at h
  ·obtain⟨_,_,_,h⟩:=zza h;obtain⟨_,_,_,h⟩:=zza h;exact⟨_,_,(Option.some.inj (zzc h)).symm⟩
  ·obtain⟨_,_,_,h⟩:=zza h;obtain⟨_,_,_,h⟩:=zza h;obtain⟨_,_,_,h⟩:=zza h;exact⟨_,_,(Option.some.inj (zzc h)).symm⟩
  exact(zzb h).elim
 |mapGet T mm k=>
  obtain⟨_,_,_,h⟩:=zza h;obtain⟨_,_,_,h⟩:=zza h;unfold aH at h
  split at h
  ·obtain⟨_,_,_,h⟩:=zza h;obtain⟨_,_,_,h⟩:=zza h;exact⟨_,_,(Option.some.inj (zzc h)).symm⟩
  exact(zzb h).elim
 |mapEnt T mm k=>
  obtain⟨_,_,_,h⟩:=zza h;obtain⟨_,_,_,h⟩:=zza h;unfold lM at h
  split at h
  ·obtain⟨_,_,_,h⟩:=zza h;exact⟨_,_,(Option.some.inj (zzc h)).symm⟩
  exact(zzb h).elim
 |mapSto T mm x v=>
  obtain⟨_,_,_,h⟩:=zza h;obtain⟨_,_,_,h⟩:=zza h;obtain⟨_,_,_,h⟩:=zza h;obtain⟨_,_,_,h⟩:=zza h;obtain⟨_,_,_,h⟩:=zza h;unfold xz at h
  split at h
  ·obtain⟨_,_,_,h⟩:=zza h;exact⟨_,_,(Option.some.inj (zzc h)).symm⟩
  exact(zzb h).elim
end
section
variable {E:Env} {N:Nat} {P:Program} {cfg:Cfg} {n0 n0':Nz} {nt:Nat} {β β':Nat→Option Nat} {σ σ':Nat→Option (Nat×Nat)} {s s':St0 E N} {a:Act} {w w':World}
theorem qD{o:Oper}(h:ym P o.op=true):0<Bn P o:=by
 unfold ym at h;unfold Bn
 grind
theorem qX:∀{gam:List CI} {f:Nat} {fns:List Nat} {ci:CI},dv gam f fns=some ci→ci∈gam∧ci.f=f∧ci.fns=fns
 |c::l,f,fns,ci,h=>by
  simp only[dv]at h
  split at h
  ·rename_i hb;cases h;simp only[zzk]at hb;exact⟨zzm,AE.1 hb.1,J9.1 hb.2⟩
  obtain⟨h1,h2⟩:=qX h
  simp_all
 | [],_,_,_,h=>by trivial
theorem AEa{x y u v:Bool}(h:(x && !y&&(u&&v))=true):x=true∧y=false∧u=true∧v=true:=by
 simp_all
theorem Rl{ctx:List (Nat×Bool)}{g:Option Bool}{id:Nat}{d:Option Nat}{f:FuncId}{caps:List (Cap (std E N))}{args:List (AV (std E N))}{sr:StepRes (std E N)}{m m':Nat}
    (h:RM.run s (js (O:=std E N) P cfg ctx g id d f caps args) m=.ok (sr,m')) :
    (g=none∧sr=.inl f (args++caps.map fun c=>one c.ac)) ∨
    (∃b n want d' z,g=some b∧ctx=[(n,want)]∧d=some d'∧sr=.inlg b f (args++caps.map fun c=>one c.ac) { ts:=[(d',some ⟨ctx,.val z⟩)] }) ∨
    (caps = [] ∧ ∃ fns ci fn ls fr u dm m2 m3, LS args = some fns ∧ dv cfg.gam f fns = some ci ∧ P.funcs[f]? = some fn ∧ fn.body.isSome = true ∧ (fn.name == "runtime.NumGoroutine") = false ∧ LM P fn.params.toList args = true ∧ (ci.nw || V4 args) = true ∧
      RM.run s (UH (O:=std E N) P ci.gives [] args) m2=.ok ((ls,fr,u),m3)∧fU ci.gives u fr=true ∧
      sr=.call g f fns ls dm (rx P ctx (SY cfg g) id d ci fn fr u)):=by
  have key:∀{mm mm':Nat},RM.run s (nW (O:=std E N) P cfg ctx g d f (args++caps.map fun c=>one c.ac)) mm=.ok (sr,mm') →
      (g=none∧sr=.inl f (args++caps.map fun c=>one c.ac))∨(∃b n want d' z,g=some b∧ctx=[(n,want)]∧d=some d'∧sr=.inlg b f (args++caps.map fun c=>one c.ac) { ts:=[(d',some ⟨ctx,.val z⟩)] }):=fun{mm mm'} h=>by
    unfold nW at h
    split at h
    · trivial
    · split at h
      · exact .inl ⟨rfl,(zzc h).symm⟩
      · split at h
        · exact .inr ⟨_,_,_,_,_,rfl,rfl,rfl,(zzc h).symm⟩
        trivial
      trivial
  unfold js at h;cases caps with
  |cons c0 cr=>grind
  |nil=>
    simp only at h
    split at h
    · grind
    · rename_i fns hfns
      split at h
      · grind
      · rename_i ci hci
        split at h
        · trivial
        · rename_i fn hfn;obtain⟨_,m1,h1,h2⟩:=zza h;obtain⟨⟨ls,fr,u⟩,m2,h3,h4⟩:=zza h2;have hg:=zzd h1;have hg:=AEa hg;simp only at h4
          split at h4
          · rename_i dm hdm hnone;have:=zzc h4
            grind
          trivial
theorem cm{ops:Array Oper}{o:Oper}{i id:Nat}{done:List Nat}{Q:Exit→Act→World→Prop}{K:Act→World→Prop}{as:List Bool}{wr:Wr (std E N)}{m m':Nat}
    (hs:Sim P n0 nt β σ s a w) (gi:GI s done) (hg:∀j want d,o.guard=some (j,want)→(ops[j]?).bind (·.dst)=some d→d∈done) (hdst:∀d,o.dst=some d→d∉done∧d<nt)
    (hid:∀n,id≤n→n<id+Bn P o→Fresh a s n) (ho:ops[i]?=some o) (h:RM.run s (FY P cfg ops.toList o id) m=.ok (.plain as wr,m')) (has:∀b∈as,b=true)
    (hK:∀a' w',After P n0 nt (fun n=>id≤n∧n<id+Bn P o) β σ s a w o.dst wr a' w'→GI (s.apply wr) (o.dst.toList++done)→K a' w'):wpOp P ops Q i K a w:=by
  unfold FY at h;obtain⟨ctx,m1,h1,h2⟩:=zza h;obtain⟨g,m2,h3,h4⟩:=zza h2;obtain⟨c1,c2,c3⟩:=mF hs gi h1 hg;have hnew:∀n,(id≤n∧n<id+Bn P o)→Fresh a s n:=fun n h=>hid n h.1 h.2
  have goW:∀(hw:Region.wanted o (yielded ops a.tmps)=true),o.wp P a w K Q→wpOp P ops Q i K a w:=fun hw h=>by
    unfold wpOp;simp_all
  have goN:∀(hw:¬Region.wanted o (yielded ops a.tmps)=true),K (a.put o.dst undef) w→wpOp P ops Q i K a w:=fun hw h=>by
    unfold wpOp;simp_all
  have hcases:=Oo h4;clear h4
  rcases hcases with⟨sp,mm,hg0,hsp,h5⟩|⟨mm,h4⟩
  · have hctx:ctx=[]:=KB (by rw[hg0]at h3;exact h3);subst hctx;have hf:Facts a []:=fun n b hm=>by simp at hm
    have hcnt:=yC (P:=P) hsp;obtain⟨as',wr',hr,hok⟩:=zt hs hf (hid id (Nat.le_refl _) (by omega)) hsp h5;cases hr;obtain⟨z,β',σ',w',r1,r2,r3,r4,r5,r6⟩:=hok has;have hw:∀n,n=id→id≤n∧n<id+Bn P o:=fun n h=>by omega
    refine goW (c1.2 hf) ?_;unfold Oper.wp
    suffices key:K (a.put o.dst z) w' by
      rcases r1 with r1|⟨r1,rfl⟩
      · rw[r1];exact key
      rw[r1];exact key
    rcases r6 with⟨d,c,hd,ht,hrel,hnm⟩|⟨hd,ht⟩
    · have hwr:wr={ ts:=[(d,some ⟨[],c⟩)],bs:=[],hs:=wr.hs }:=by cases wr;simp_all
      have hdd:=hdst d hd;rw[hd]at hK⊢;rw[hwr]at hK;exact hK _ _ (JB (bs:=[]) hs gi hdd.1 hdd.2 hnew c2 r2 (r3.weaken hw) (r4.weaken hw) (.inl ⟨hf,hrel,fun n hn hnn=>hnm n hn (fun e=>hnn (hw n e))⟩)) (GI.put gi c2 rfl)
    have hwr:wr={ ts:=[],bs:=[],hs:=wr.hs }:=by cases wr;simp_all
    rw[hd]at hK⊢;rw[hwr]at hK;refine hK _ _ (ZY hs hnew rfl r2 (r3.weaken hw) (r4.weaken hw)) ?_;trivial
  unfold XC at h4
  split at h4
  ·
    rename_i T x y hop
    split at h4
    · trivial
    have hctx:ctx=[]:=KB h3;subst hctx;have hf:Facts a []:=fun n b hm=>by simp at hm
    obtain⟨p,m3,h5,h6⟩:=zza h4;obtain⟨v,m4,h7,h8⟩:=zza h6;obtain⟨wr',m5,h9,h10⟩:=zza h8
    split at h10
    · rename_i hd;have hr:=zzc h10;simp only[StepRes.plain.injEq]at hr;obtain⟨rfl,rfl⟩:=hr;obtain⟨hp,_,_⟩:=B9 hs hf h5;obtain⟨hv,hvn⟩:=LI hs hf h7;obtain⟨w',r1,r2,r3,r4,r5⟩:=zD (a:=a) hs.n0le hs.M hp hv.1 hvn h9;refine goW (c1.2 hf) ?_;unfold Oper.wp;have:(execOp a.eval o).run P w=.ok .skip w':=by simp[execOp,hop,r1]
      rw[this];show K (a.put o.dst undef) w';rw[hd];refine hK _ _ ?_ ?_
      · rw[hd];exact ZY hs hnew r5 r2 (r3.weaken (fun n h=>h.elim)) (r4.weaken (fun n h=>h.elim))
      rw[hd];intro n tv hn;rw[State.getT_apply0 s _ r5]at hn;exact gi n tv hn
    trivial
  ·
    obtain⟨f,m3,h5,h6⟩:=zza h4
    split at h6
    · split at h6
      · trivial
      obtain⟨_,m40,h60,h61⟩:=zza h6;obtain⟨args,m4,h7,h8⟩:=zza h61
      rcases Rl h8 with⟨_,h9⟩|⟨_,_,_,_,_,_,_,_,h9⟩|⟨_,fns,ci,fn,ls,fr,u,dm,m2,m3,_,_,_,_,_,_,_,_,_,h9⟩<;>cases h9
    trivial
  ·
    rename_i hmem _ _
    split at h4
    · rename_i d hd;have hctx:ctx=[]:=KB h3;subst hctx;have hf:Facts a []:=fun n b hm=>by simp at hm
      obtain⟨⟨as',c,wr'⟩,m3,h5,h6⟩:=zza h4;have hr:=zzc h6;simp only[StepRes.plain.injEq]at hr;obtain⟨rfl,rfl⟩:=hr;have hpos:=qD hmem;obtain⟨z,β',σ',w',r1,r2,r3,r4,r5,r6,r7⟩:=ABK hs hf (hid id (Nat.le_refl _) (by omega)) h5 has;have hwr:wr'={ bs:=wr'.bs,hs:=wr'.hs }:=by cases wr';simp_all
      refine goW (c1.2 hf) ?_;unfold Oper.wp;rw[r1];show K (a.put o.dst z) w';rw[hd];have hdd:=hdst d hd;refine hK _ _ ?_ ?_
      · rw[hd];rw[hwr]at r2 r3 r4 r5;exact JB hs gi hdd.1 hdd.2 hnew c2 r2 (r3.weaken (fun n h=>by omega)) (r4.weaken (fun n h=>by omega)) (.inl ⟨hf,Aj r5,fun n hn hnn=>by
          have:=r6 n hn (fun e=>hnn (by omega));simpa[AV.names,one,AJ]using this⟩)
      rw[hd];exact GI.put gi c2 rfl
    · rename_i d hd;obtain⟨c,m3,h5,h6⟩:=zza h4;have hr:=zzc h6;simp only[StepRes.plain.injEq]at hr;obtain⟨rfl,rfl⟩:=hr;have hpos:=qD hmem;have hdd:=hdst d hd
      by_cases hw:Region.wanted o (yielded ops a.tmps)=true
      · have hf:=c1.1 hw;obtain⟨z,β',σ',w',r1,r2,r3,r4,r5,r6,r7⟩:=ABH hs hf (hid id (Nat.le_refl _) (by omega)) h5;refine goW hw ?_;unfold Oper.wp;rw[r1];show K (a.put o.dst z) w';rw[hd];refine hK _ _ ?_ ?_
        · rw[hd];exact JB (bs:=[]) (hh:=[]) hs gi hdd.1 hdd.2 hnew c2 r2 (r3.weaken (fun n h=>by omega)) (r4.weaken (fun n h=>by omega)) (.inl ⟨hf,Aj r5,fun n hn hnn=>by
            have:=r6 n hn (fun e=>hnn (by omega));simpa[AV.names,one,AJ]using this⟩)
        rw[hd];exact GI.put gi c2 rfl
      refine goN hw ?_;rw[hd];have sub:Sub s (s.apply ({}:Wr (std E N))):=Sub.of_same (fun n=>State.getB_apply0 s _ rfl n) (fun n=>State.getH_apply0 s _ rfl n);refine hK _ _ ?_ ?_
      · rw[hd];exact JB (bs:=[]) (hh:=[]) hs gi hdd.1 hdd.2 hnew c2 (sub.mem hs.M) (sub.ext P n0 _ β σ w) (Tidy.of_sub (fr:=[]) (fun _ _ h=>by simp at h) rfl rfl rfl _) (.inr ⟨fun h=>hw (c1.2 h),rfl⟩)
      rw[hd];exact GI.put gi c2 rfl
    trivial
  split at h4
  · rename_i d hd;obtain⟨⟨as',v,fr⟩,m3,h5,h6⟩:=zza h4;obtain⟨fr',m4,h7,h8⟩:=zza h6;have hr:=zzc h8;simp only[StepRes.plain.injEq]at hr;obtain⟨rfl,rfl⟩:=hr;obtain⟨f1,f2⟩:=gY h7;have hdd:=hdst d hd;have sub:=f1.sub (wr:={ bs:=[],hs:=fr' }) rfl rfl
    by_cases hw:Region.wanted o (yielded ops a.tmps)=true
    · have hf:=c1.1 hw;refine goW hw ?_;have hgt:∀b,g=some b→b=true:=XE hs hf h3;obtain⟨z,r1,r2,r3,r4⟩:=AAI hs hf h5 (fun b hb=>by
        have:=has (oJ g b) (List.mem_map.2 ⟨b,hb,rfl⟩);unfold oJ at this
        grind)
      have:=f2 r4;subst this;unfold Oper.wp;rw[r1];show K (a.put o.dst z) w;rw[hd];refine hK _ _ ?_ ?_
      · rw[hd];exact JB (bs:=[]) hs gi hdd.1 hdd.2 hnew c2 (sub.mem hs.M) (sub.ext P n0 _ β σ w) (Tidy.of_sub f1.pre rfl rfl rfl _) (.inl ⟨hf,r2,fun n hn _=>r3 n hn⟩)
      rw[hd];exact GI.put gi c2 rfl
    refine goN hw ?_;rw[hd];refine hK _ _ ?_ ?_
    · rw[hd];exact JB (bs:=[]) hs gi hdd.1 hdd.2 hnew c2 (sub.mem hs.M) (sub.ext P n0 _ β σ w) (Tidy.of_sub f1.pre rfl rfl rfl _) (.inr ⟨fun h=>hw (c1.2 h),rfl⟩)
    rw[hd];exact GI.put gi c2 rfl
  trivial
end
section
variable {E:Env} {N:Nat} {P:Program} {cfg:Cfg} {n0 n0':Nz} {nt:Nat} {β β':Nat→Option Nat} {σ σ':Nat→Option (Nat×Nat)} {s s':St0 E N} {a:Act} {w w':World}
theorem jL(hs:Sim P n0 nt β σ s a w){ctx:List (Nat×Bool)}(hf:Facts a ctx):∀{ts:List TypeId} {xs:List Operand} {vs:List (AV (std E N))} {m m':Nat},RM.run s (Zi (O:=std E N) P ctx ts xs) m=.ok (vs,m') →
    RelArgs P n0 β σ s w vs (xs.map a.eval)
  | [],[],vs,m,m',h=>by cases zzc h;trivial
  |t::ts,x::xs,vs,m,m',h=>by
    obtain⟨v,m1,h1,h2⟩:=zza h;obtain⟨r,m2,h3,h4⟩:=zza h2;cases zzc h4;exact⟨(Wa hs hf h1).1,jL hs hf h3⟩
  | [],_::_,_,_,_,h=>(zzb h).elim
  |_::_,[],_,_,_,h=>(zzb h).elim
theorem ADl{c:AC0 E N}{l:AW}{fr:List (Nat×Option (HEnt (std E N)))}{nw:Bool}{k k':Nat}(h:RM.run s (tj (O:=std E N) c) k=.ok ((l,fr,nw),k')):FrOK s fr:=by
 have nil:FrOK s ([]:List (Nat×Option (HEnt (std E N)))):=fun _ _ hm=>by simp at hm
 cases c with
 |own e id=>
  obtain⟨k1,h⟩:=zzf h;cases hh:s.getH id with
  |none=>rw[hh]at h;trivial
  |some en=>
   rw[hh]at h;cases zzc h;intro n v hm
   simp_all
 |int _ _=>cases zzc h;exact nil
 |bool _=>cases zzc h;exact nil
 |str _=>cases zzc h;exact nil
 |nil _=>cases zzc h;exact nil
 |imm _ _ _=>cases zzc h;exact nil
 |opq=>cases zzc h;exact nil
 |_=>trivial
theorem sK:∀{cs:List (AC0 E N)} {ls:List AW} {fr:List (Nat×Option (HEnt (std E N)))} {nw:Bool} {k k':Nat},RM.run s (L9 (O:=std E N) cs) k=.ok ((ls,fr,nw),k')→FrOK s fr
 | [],ls,fr,nw,k,k',h=>by cases zzc h;exact fun _ _ hm=>by simp at hm
 |c::cs,ls,fr,nw,k,k',h=>by
  obtain⟨⟨l,f1,n1⟩,k1,h1,h2⟩:=zza h;obtain⟨⟨ls2,f2,n2⟩,k2,h3,h4⟩:=zza h2;cases zzc h4;exact(ADl h1).append (sK h3)
theorem jd:∀{args:List (AV (std E N))} {gives:List Bool} {used u:List Nat} {ls:List AW} {fr:List (Nat×Option (HEnt (std E N)))} {k k':Nat},RM.run s (UH (O:=std E N) P gives used args) k=.ok ((ls,fr,u),k')→FrOK s fr
 | [],gives,used,u,ls,fr,k,k',h=>by cases zzc h;exact fun _ _ hm=>by simp at hm
 | .tup y::args,gives,used,u,ls,fr,k,k',h=>by
  trivial
 | .val y::args,gives,used,u,ls,fr,k,k',h=>by
  cases hy:fnV y with
  |some fc=>
   obtain⟨f,caps⟩:=fc;have:=tp hy;subst this;obtain⟨ts0,k1,h1,h2⟩:=zza h;obtain⟨cl,k2,h3,h4⟩:=zza h2;obtain⟨⟨ls2,fr2,u2⟩,k3,h5,h6⟩:=zza h4;cases zzc h6;exact jd (gives:=gives.tail) h5
  |none=>
   rw[qd hy]at h
   split at h
   ·exact(zzb h).elim
   obtain⟨⟨ls1,f1,nw1⟩,k1,h1,h2⟩:=zza h;obtain⟨⟨ls2,fr2,u2⟩,k2,h3,h4⟩:=zza h2;cases zzc h4;exact(sK h1).append (jd h3)
theorem Xi{nw:Bool}{c:List PV}:∀{ts:List TypeId} {j q:Nat} {cs:List (AC0 E N)} {hs:List (Nat×HEnt (std E N))},A3 (O:=std E N) P (fun _=>false) nw c j q ts=some (cs,hs)→hs=[]
 | [],j,q,cs,hs,h=>by simp only[A3]at h;cases h;rfl
 |t::ts,j,q,cs,hs,h=>by
  simp only[A3]at h
  split at h<;>first
   |(obtain⟨⟨r,hh⟩,h1,h2⟩:=zzp.1 h;cases h2;exact Xi h1)
   |cases h
theorem YU{nw:Bool}{c:List PV}:∀{ts:List TypeId} {j q:Nat} {vs:List (Val (std E N))} {hs:List (Nat×HEnt (std E N))},Bw (O:=std E N) P (fun _=>false) nw c j q ts=some (vs,hs)→hs=[]
 | [],j,q,vs,hs,h=>by simp only[Bw]at h;grind
 |t::ts,j,q,vs,hs,h=>by
  simp only[Bw]at h
  split at h
  ·cases h
  split at h
  ·cases h
  rename_i cs h1 hc
  split at h
  ·cases h
  rename_i vs2 h2 hv;cases h;rw[Xi hc,YU hv];rfl
def yJ{α:Type}(g:Option α)(b:Bool):Bool:=match g with
 |none=>b
 |some _=>false
theorem ADv{α:Type}(g:Option α)(ci:CI):ACx g ci.ow=CI.ow { ci with own:=yJ g ci.own }:=by cases g<;>rfl
theorem wc{ci:CI}(h:Ko P E N ci∧Ko P E N { ci with own:=false })(g:Option Bool):Ko P E N { ci with own:=yJ g ci.own }:=by
 cases g with
 |none=>exact h.1
 |some b=>exact h.2
theorem AAr{q len:Nat}{nw:Bool}{c:AC0 E N}(h:OkC q len nw c):∀n∈c.names,q≤n∧n<q+len:=by
 intro n hn;cases c with
 |own e k=>simp only[AC.names,List.mem_singleton]at hn;subst hn;exact h
 |int _ _=>trivial
 |bool _=>trivial
 |str _=>trivial
 |imm _ _ _=>trivial
 |opq=>trivial
 |_=>exact h.elim
theorem br:∀{vs:List (Val (std E N))} {n:Nat},n∈B7 vs→∃v∈vs,n∈AJ v.cs
 |v::vs,n,h=>by
  simp only[B7,List.mem_append]at h
  rcases h with h|h
  ·simp_all
  obtain⟨u,hu,hn⟩:=br h;grind
theorem yW{q len:Nat}{nw:Bool}{vs:List (Val (std E N))}(h:∀v∈vs,∀x∈v.cs,OkC q len nw x):∀n∈(LY vs).names,q≤n∧n<q+len:=by
 intro n hn;have:∃v∈vs,n∈AJ v.cs:=by
  match vs,hn with
  | [x],hn=>exact⟨x,zzm,hn⟩
  | [],hn=>trivial
  |x::y::r,hn=>exact br hn
 obtain⟨v,hv,hm⟩:=this;obtain⟨c,hc,hm⟩:=Bh.1 hm;exact AAr (h v hv c hc) n hm
theorem gw{ops:Array Oper}{o:Oper}{i id:Nat}{done:List Nat}{Q:Exit→Act→World→Prop}{K:Act→World→Prop}{g:Option Bool}{f:FuncId}{fns:List Nat}{ls dm:List AW}{next:List PV→Option (Wr (std E N))}{wr:Wr (std E N)}{m m':Nat}
    (hΓ:GamOK P E N cfg)
    (hs:Sim P n0 nt β σ s a w) (gi:GI s done) (hg:∀j want d,o.guard=some (j,want)→(ops[j]?).bind (·.dst)=some d→d∈done) (hdst:∀d,o.dst=some d→d∉done∧d<nt)
    (hid:∀n,id≤n→n<id+Bn P o→Fresh a s n) (ho:ops[i]?=some o) (h:RM.run s (FY P cfg ops.toList o id) m=.ok (.call g f fns ls dm next,m'))
    {c:List PV} (hm:(match g with|none=>E f fns (ls.map Leaf.pv)|some b=>if b then E f fns (ls.map Leaf.pv)else some (dm.map Leaf.pv))=some c) (hn:next c=some wr)
    (hK:∀a' w',After P n0 nt (fun n=>id≤n∧n<id+Bn P o) β σ s a w o.dst wr a' w'→GI (s.apply wr) (o.dst.toList++done)→K a' w'):wpOp P ops Q i K a w:=by
  unfold FY at h;obtain⟨ctx,m1,h1,h2⟩:=zza h;obtain⟨g',m2,h3,h4⟩:=zza h2;obtain⟨c1,c2,c3⟩:=mF hs gi h1 hg;have hnew:∀n,(id≤n∧n<id+Bn P o)→Fresh a s n:=fun n h=>hid n h.1 h.2
  have hcases:=Oo h4;clear h4
  rcases hcases with⟨sp,mm,hg0,hsp,h5⟩|⟨mm,h4⟩
  · have hctx:ctx=[]:=KB (by rw[hg0]at h3;exact h3);subst hctx;obtain⟨as',wr',hr⟩:=Vy h5;cases hr
  unfold XC at h4
  split at h4
  · split at h4
    · trivial
    obtain⟨p,m3,h5,h6⟩:=zza h4;obtain⟨v,m4,h7,h8⟩:=zza h6;obtain⟨wr',m5,h9,h10⟩:=zza h8
    split at h10
    · cases zzc h10
    trivial
  · rename_i fop args tys hop;obtain⟨fv,m3,h5,h6⟩:=zza h4
    split at h6
    case h_2=>trivial
    rename_i f' caps
    split at h6
    case h_1=>trivial
    rename_i fn0 hfn0;obtain⟨_,m40,h60,h61⟩:=zza h6;obtain⟨avs,m4,h7,h8⟩:=zza h61
    rcases Rl h8 with⟨_,h9⟩|⟨_,_,_,_,_,_,_,_,h9⟩|⟨hcaps,fns',ci,fn,ls',fr,u,dm',m2,m3,q1,q2,q3,q4,q5,q6,qn,q7,q8,h9⟩
    · cases h9
    · cases h9
    cases h9;subst hcaps;obtain⟨ciM,ciF,ciN⟩:=qX q2;have hcnt:Bn P o=16:=by unfold Bn;rw[hop]
    have hfr:=jd q7;unfold rx at hn
    split at hn
    · cases hn
    rename_i vs nh hb
    split at hn
    case h_2=>cases hn
    rename_i hle;have hle:=Nat.le_of_ble_eq_true hle;cases hn;obtain⟨row1,okh,okc⟩:=V9 hb;generalize hHS:(match ci.nw with|true=>[]|false=>fr)++(u.map (fun n=>(n,none))++nh.map fun(n,h)=>(n,some h))=HS at hK;have hnames:∀n,¬(id≤n∧n<id+Bn P o)→n∉(LY vs).names:=fun n hn hm=>hn (by
      have:=yW okc n hm;omega)
    have fin:∀(z:Value) (w':World) (β':Nat→Option Nat) (σ':Nat→Option (Nat×Nat)),Mem P n0 β' σ' (s.apply { bs:=[],hs:=HS }) w'→Ext P n0 (fun n=>id≤n∧n<id+Bn P o) β σ s w β' σ' (s.apply { bs:=[],hs:=HS }) w' →
        Tidy a (fun n=>id≤n∧n<id+Bn P o) s (s.apply { bs:=[],hs:=HS }) →
        ((Facts a ctx∧RelAV P n0 β' σ' (s.apply { bs:=[],hs:=HS }) w' (LY vs) z)∨(¬Facts a ctx∧z=undef))→K (a.put o.dst z) w':=fun z w' β' σ' hm hx ht hz=>by
      cases hd:o.dst with
      |some d=>
        rw[hd]at hK;have hdd:=hdst d hd;exact hK _ _ (JB (bs:=[]) hs gi hdd.1 hdd.2 hnew c2 hm hx ht (hz.imp (fun h=>⟨h.1,h.2,fun n _ hn=>hnames n hn⟩) (fun h=>h))) (GI.put gi c2 rfl)
      |none=>
        rw[hd]at hK;refine hK _ _ (ZY hs hnew rfl hm hx ht) ?_;trivial
    by_cases hw:Region.wanted o (yielded ops a.tmps)=true
    · have hf:=c1.1 hw;have hgt:∀b,g=some b→b=true:=XE hs hf h3;have hE:E f fns (ls.map Leaf.pv)=some c:=by
        grind
      have hfv:=(Wa hs hf h5).1;have hargs:=jL hs hf h7;have hval:Ko P E N { ci with own:=yJ (SY (O:=std E N) cfg g) ci.own }:=wc (hΓ.ci ci ciM) (SY (O:=std E N) cfg g);have hev:a.eval fop=.func (.func f) #[] #[]:=by
        obtain⟨hr1,hr2⟩:=hfv;have hr2:(a.eval fop).oneCell'=true:=hr2;rw[Bi hr2]at hr1;obtain⟨vs2,e1,e2,_⟩:=hr1.1
        simp_all
      have hnb:fn.body.isNone=false:=by simp_all
      have hex:(execOp a.eval o).run P w=.ok (.enter f (args.map a.eval)) w:=by
        simp only[beq_eq_false_iff_ne,ne_eq]at q5;simp[execOp,hop,resolve,Deferred.ofValue,hev,invoke,callFunc,q3,q5,hnb]
        grind
      rw[ADv (SY (O:=std E N) cfg g) ci]at hb;have hcall:=AD3 (a:=a) hs.n0le hs.M hs.kept hval (fn:=fn) (by simp_all) hargs q6 (by simp_all) qn q7 q8 (rs:=c) (by simp_all) (id:=id) hb
        (fun n h1 h2=>hid n h1 (by omega)) (wr:={ bs:=[],hs:=HS }) rfl rfl hHS.symm
      unfold wpOp;simp only[ho,hw,if_true];refine .inl ?_;unfold Oper.wp;rw[hex];have harr:(args.toList.map a.eval).toArray=args.map a.eval:=by grind
      rw[harr]at hcall;rw[show({ ci with own:=yJ (SY (O:=std E N) cfg g) ci.own }:CI).f=f from ciF]at hcall;refine Calls.mono hcall (fun e w' hp=>?_);cases e with
      |panicked ch=>trivial
      |outgrown=>trivial
      |returned v=>
        obtain⟨σ',r1,r2,r3,r4⟩:=hp;exact fin v w' β σ' r1 (r2.weaken (fun n h=>⟨h.1,by omega⟩)) (r3.weaken (fun n h=>⟨h.1,by omega⟩)) (.inl ⟨hf,r4⟩)
    have hgs:∃b,g=some b:=by
      cases g with
      |none=>exact(hw (c1.2 (by rw[KB h3];intro n b hm;simp at hm))).elim
      |some b=>simp_all
    obtain⟨b,hgb⟩:=hgs;have hnh:nh=[]:=by rw[hgb,show SY (O:=std E N) cfg (some b)=some b by unfold SY;simp_all]at hb;exact YU hb
    have hpre:PreOK s HS:=by
      rw[←hHS,hnh];intro n v hm
      rcases List.mem_append.1 hm with hm|hm
      · split at hm
        · simp at hm
        exact .inr (hfr n v hm)
      grind
    have sub:=hpre.sub (wr:={ bs:=[],hs:=HS }) rfl rfl;unfold wpOp;simp only[ho,hw,if_false];exact fin undef w β σ (sub.mem hs.M) (sub.ext P n0 _ β σ w) (Tidy.of_sub hpre rfl rfl rfl _) (.inr ⟨fun h=>hw (c1.2 h),rfl⟩)
  · split at h4
    · obtain⟨⟨as',c',wr'⟩,m3,h5,h6⟩:=zza h4;cases zzc h6
    · obtain⟨c',m3,h5,h6⟩:=zza h4;cases zzc h6
    trivial
  split at h4
  · obtain⟨⟨as',v,fr⟩,m3,h5,h6⟩:=zza h4;obtain⟨fr',m4,h7,h8⟩:=zza h6;cases zzc h8
  trivial
end
section
variable {E:Env} {N:Nat} {P:Program} {cfg:Cfg} {n0 n0':Nz} {nt:Nat} {β β':Nat→Option Nat} {σ σ':Nat→Option (Nat×Nat)} {s s':St0 E N} {a:Act} {w w':World}
structure Post(P:Program)(n0:Nz)(nt L:Nat)(D:Nat→Prop)(β:Nat→Option Nat)(σ:Nat→Option (Nat×Nat))(s:St0 E N)(a:Act)(w:World)
    (β':Nat→Option Nat) (σ':Nat→Option (Nat×Nat)) (s':St0 E N) (a':Act) (w':World):Prop where
  sim:Sim P n0 nt β' σ' s' a' w'
  ext:Ext P n0 (fun n=>L≤n) β σ s w β' σ' s' w'
  cleanB:∀n e,s'.getB n=some e→e.dirty=false→s.getB n=some e
  cleanH:∀n e,s'.getH n=some e→e.dirty=false→s.getH n=some e
  defers:a'.defers=a.defers
  tmps:∀n,¬D n→a'.tmps.getD n undef=a.tmps.getD n undef
theorem Post.trans{L L':Nat}{D D':Nat→Prop}{β'':Nat→Option Nat}{σ'':Nat→Option (Nat×Nat)}{s'':St0 E N}{a' a'':Act}{w'':World}(h:Post P n0 nt L D β σ s a w β' σ' s' a' w')(k:Post P n0 nt L' D' β' σ' s' a' w' β'' σ'' s'' a'' w'')(hl:L≤L') :
    Post P n0 nt L (fun n=>D n∨D' n) β σ s a w β'' σ'' s'' a'' w'':=
  ⟨k.sim,(h.ext.trans k.ext).weaken (fun n hn=>hn.elim (fun h=>h) (fun h=>Nat.le_trans hl h)),fun n e h1 h2=>h.cleanB n e (k.cleanB n e h1 h2) h2,fun n e h1 h2=>h.cleanH n e (k.cleanH n e h1 h2) h2,
    k.defers.trans h.defers,fun n hn=>(k.tmps n (fun h=>hn (.inr h))).trans (h.tmps n (fun h=>hn (.inl h)))⟩
theorem WK:∀{as:List Bool} {m:Option (List PV)} {r:List PV},Xo (O:=std E N) as m=some r→(∀b∈as,b=true)∧m=some r
 | [],m,r,h=>⟨fun b hb=>by simp at hb,h⟩
 |b::as,m,r,h=>by
  have h':(cond b (Xo (O:=std E N) as m) none)=some r:=h;cases b
  ·simp at h'
  obtain⟨h1,h2⟩:=WK (as:=as) (by trivial)
  simp_all
def Mu(s:St0 E N)(n:Nat):Prop:=(∀k e,s.getB k=some e→n≠k∧n∉AJ e.cs)∧∀k e,s.getH k=some e→n≠k
abbrev Inl(E:Env)(N:Nat):=FuncId→List (AV (std E N))→St0 E N→(AV (std E N)→St0 E N→Option (List PV))→Option (List PV)
def lg(P:Program)(inl:Inl E N):Prop:=
  ∀f (args:List (AV (std E N))) (s:St0 E N) k r,inl f args s k=some r→∀(n0:Nz) β σ (w:World) (vals:List Value),n0.n≤w.heap.size→Mem P n0 β σ s w→Kept P n0 β σ s w →
    (∀n,s.st≤n→Mu s n)→(∀x∈args,∀n∈x.names,n<s.st)→RelArgs P n0 β σ s w args vals →
    Calls P f vals.toArray w fun
      | .returned v,w'=>∃(av:AV (std E N)) (s':St0 E N) (β':Nat→Option Nat) (σ':Nat→Option (Nat×Nat)),k av s'=some r∧s'.tm=s.tm∧s.st≤s'.st∧Mem P n0 β' σ' s' w'∧Ext P n0 (fun n=>s.st≤n) β σ s w β' σ' s' w' ∧
          (∀n e,s'.getB n=some e→e.dirty=false→s.getB n=some e)∧(∀n e,s'.getH n=some e→e.dirty=false→s.getH n=some e) ∧
          RelAV P n0 β' σ' s' w' av v∧∀n,s'.st≤n→Mu s' n∧n∉av.names
      |_,_=>False
theorem After.post{id:Nat}{dst:Option Nat}{wr:Wr (std E N)}{a':Act}{n:Nat}(h:After P n0 nt (fun k=>id≤k∧k<id+n) β σ s a w dst wr a' w') :
    ∃β' σ',Post P n0 nt id (fun k=>dst=some k) β σ s a w β' σ' (s.apply wr) a' w'∧(∀k,(∀j,id≤j→Fresh a s j)→id+n≤k→Fresh a' (s.apply wr) k):=by
  obtain⟨β',σ',h1,h2,h3,h4,h5,h6,h7⟩:=h;exact⟨β',σ',⟨h1,h2.weaken (fun k h=>h.1),h4,h5,h6,fun k hk=>h7 k hk⟩,fun k hf hk=>h3 k (hf k (by omega)) (by omega)⟩
theorem cy{ops:List Oper}:∀{rest:List Oper} {i:Nat} {bs:List Nat},GM ops i bs rest=true→∀(k:Nat) (o:Oper),rest[k]?=some o→∀j want,o.guard=some (j,want)→j<i+k
 |o::rest,i,b::bs,h,k,o',hk,j,want,hg=>by
  simp only[GM]at h;cases k with
  |zero=>
   simp_all
  |succ k=>
   have h2:GM ops (i+1) bs rest=true:=by
    grind
   have:=cy h2 k o' (by trivial) j want hg;omega
 | [],_,_,_,k,o',hk,_,_,_=>by simp at hk
 |_::_,_,[],h,_,_,_,_,_,_=>by trivial
theorem MT:∀(a b:List Oper),Ar (a++b)=Ar a++Ar b
 | [],b=>rfl
 |o::a,b=>by
  simp only[List.cons_append,Ar,MT a b];cases o.dst<;>rfl
theorem H3:∀{l:List Oper} {k:Nat} {o:Oper} {d:Nat},l[k]?=some o→o.dst=some d→d∈Ar l
 |x::l,0,o,d,h,hd=>by
  simp at h;subst h;simp[Ar,hd]
 |x::l,k+1,o,d,h,hd=>by
  have:=H3 (l:=l) (k:=k) (by trivial) hd;simp only[Ar]
  grind
 | [],k,o,d,h,_=>by simp at h
theorem GI.mono{d d':List Nat}(gi:GI s d)(h:∀x∈d,x∈d'):GI s d':=fun n tv hn g hg=>h _ (gi n tv hn g hg)
theorem ge(hs:Sim P n0 nt β σ s a w){ctx:List (Nat×Bool)}(hf:Facts a ctx):∀{ts:List TypeId} {xs:List Operand} {vs:List (AV (std E N))} {m m':Nat},RM.run s (Zi (O:=std E N) P ctx ts xs) m=.ok (vs,m') →
    ∀x∈vs,∀n,Fresh a s n→n∉x.names
  | [],[],vs,m,m',h=>by cases zzc h;simp_all
  |t::ts,x::xs,vs,m,m',h=>by
    obtain⟨v,m1,h1,h2⟩:=zza h;obtain⟨r,m2,h3,h4⟩:=zza h2;cases zzc h4;intro y hy
    rcases List.mem_cons.1 hy with rfl|hy
    · exact(Wa hs hf h1).2
    exact ge hs hf h3 y hy
  | [],_::_,_,_,_,h=>(zzb h).elim
  |_::_,[],_,_,_,h=>(zzb h).elim
theorem RelArgs.append:∀{xs ys:List (AV (std E N))} {us vs:List Value},RelArgs P n0 β σ s w xs us→RelArgs P n0 β σ s w ys vs→RelArgs P n0 β σ s w (xs++ys) (us++vs)
 | [],_,[],_,_,h=>h
 |x::xs,_,u::us,_,h,h'=>⟨h.1,RelArgs.append h.2 h'⟩
 | [],_,_::_,_,h,_=>h.elim
 |_::_,_,[],_,h,_=>h.elim
theorem Ext.relArgs(x:Ext P n0 (fun _=>False) β σ s w β' σ' s' w'):∀{xs:List (AV (std E N))} {vs:List Value},RelArgs P n0 β σ s w xs vs→RelArgs P n0 β' σ' s' w' xs vs
 | [],[],h=>h
 |y::xs,v::vs,h=>⟨x.relAV (fun _ _ h=>h) h.1,x.relArgs h.2⟩
 | [],_::_,h=>h.elim
 |_::_,[],h=>h.elim
theorem AFG{c:Cap (std E N)}{v:Value}(h:Uq P n0 β σ s w c v):RelC P n0 β σ s w c.ac v:=by
 cases c with
 |box b o=>exact h
 |row e l=>
  obtain⟨h1,t,ts,blk,boff,len,cap,ht,hts,hr,hv⟩:=h;refine⟨Int.le_refl 0,by simp_all,t,ts,blk,boff,len,cap,ht,hts,hr,?_⟩
  simp_all
theorem tL:∀{caps:List (Cap (std E N))} {vs:List Value},vs.length=caps.length→(∀(i:Nat) (c:Cap (std E N)),caps[i]?=some c→∃x:Value,vs[i]?=some x∧Uq P n0 β σ s w c x) →
    RelArgs P n0 β σ s w (caps.map fun c=>(one c.ac:AV (std E N))) vs
  | [],[],_,_=>trivial
  |c::caps,v::vs,hl,h=>by
    obtain⟨x,hx,hr⟩:=h 0 c rfl;simp at hx;subst hx;exact⟨Aj (AFG hr),tL (by simp_all) (fun i c hc=>by
      obtain⟨y,hy,hr2⟩:=h (i+1) c (by trivial)
      simp_all)⟩
  | [],_::_,hl,_=>by simp at hl
  |_::_,[],hl,_=>by simp at hl
theorem zO{ops:Array Oper}{o:Oper}{id:Nat}{f:FuncId}{args:List (AV (std E N))}{m m':Nat}(h:RM.run s (FY P cfg ops.toList o id) m=.ok (.inl f args,m')) :
    ∃fop cargs tys caps avs fn m1 m2 m3 m4 m5,o.op=.call ⟨.value fop,cargs,tys⟩∧RM.run s (Wf (O:=std E N) ops.toList o) m=.ok ([],m1)∧RM.run s (ev (O:=std E N) P [] 0 fop) m2=.ok (.val ⟨false,[.fn f caps]⟩,m3) ∧
      P.funcs[f]? = some fn ∧ fn.body.isSome = true ∧ (fn.name == "runtime.NumGoroutine") = false ∧ RM.run s (Zi (O := std E N) P [] (fn.params.toList.take cargs.size) cargs.toList) m4 = .ok (avs, m5) ∧ args = avs ++ caps.map fun c => one c.ac := by
  unfold FY at h;obtain⟨ctx,m1,h1,h2⟩:=zza h;obtain⟨g',m2,h3,h4⟩:=zza h2;have hcases:=Oo h4;clear h4
  rcases hcases with⟨sp,mm,hg0,hsp,h5⟩|⟨mm,h4⟩
  · obtain⟨as',wr',hr⟩:=Vy h5;cases hr
  unfold XC at h4
  split at h4
  · split at h4
    · trivial
    · obtain⟨p,m3,h5,h6⟩:=zza h4;obtain⟨v,m4,h7,h8⟩:=zza h6;obtain⟨wr',m5,h9,h10⟩:=zza h8
      split at h10
      · cases zzc h10
      trivial
  · rename_i fop cargs tys hop;obtain⟨fv,m3,h5,h6⟩:=zza h4
    split at h6
    case h_2=>trivial
    rename_i f' caps
    split at h6
    case h_1=>trivial
    rename_i fn0 hfn0;obtain⟨_,m40,h60,h61⟩:=zza h6;obtain⟨avs,m4,h7,h8⟩:=zza h61;have hg:=zzd h60;simp only[zzk,Bool.not_eq_true']at hg
    rcases Rl h8 with⟨hgn,h9⟩|⟨_,_,_,_,_,_,_,_,h9⟩|⟨hcaps,fns',ci,fn,ls',fr,u,dm',m2,m3,q1,q2,q3,q4,q5,q6,qn,q7,q8,h9⟩
    · subst hgn;have hc:=KB h3
      grind
    · cases h9
    · cases h9
  · split at h4
    · obtain⟨⟨as',c',wr'⟩,m3,h5,h6⟩:=zza h4;cases zzc h6
    · obtain⟨c',m3,h5,h6⟩:=zza h4;cases zzc h6
    trivial
  · split at h4
    · obtain⟨⟨as',v,fr⟩,m3,h5,h6⟩:=zza h4;obtain⟨fr',m4,h7,h8⟩:=zza h6;cases zzc h8
    trivial
theorem wO{ops:Array Oper}{o:Oper}{id:Nat}{g:Bool}{f:FuncId}{args:List (AV (std E N))}{w0:Wr (std E N)}{m m':Nat}(h:RM.run s (FY P cfg ops.toList o id) m=.ok (.inlg g f args w0,m')) :
    ∃fop cargs tys caps avs fn n want d z m1 m2 m3 m4 m5 m6,o.op=.call ⟨.value fop,cargs,tys⟩∧RM.run s (Wf (O:=std E N) ops.toList o) m=.ok ([(n,want)],m1)∧RM.run s (Yy (O:=std E N) [(n,want)]) m1=.ok (some g,m6)∧RM.run s (ev (O:=std E N) P [(n,want)] 0 fop) m2=.ok (.val ⟨false,[.fn f caps]⟩,m3) ∧
      P.funcs[f]? = some fn ∧ fn.body.isSome = true ∧ (fn.name == "runtime.NumGoroutine") = false ∧ RM.run s (Zi (O := std E N) P [(n, want)] (fn.params.toList.take cargs.size) cargs.toList) m4 = .ok (avs, m5) ∧ args = (avs ++ caps.map fun c => one c.ac) ∧
      o.dst=some d∧w0={ ts:=[(d,some ⟨[(n,want)],.val z⟩)] }:=by
  unfold FY at h;obtain⟨ctx,m1,h1,h2⟩:=zza h;obtain⟨g',m2,h3,h4⟩:=zza h2;have hcases:=Oo h4;clear h4
  rcases hcases with⟨sp,mm,hg0,hsp,h5⟩|⟨mm,h4⟩
  · obtain⟨as',wr',hr⟩:=Vy h5;cases hr
  unfold XC at h4
  split at h4
  · split at h4
    · trivial
    · obtain⟨p,m3,h5,h6⟩:=zza h4;obtain⟨v,m4,h7,h8⟩:=zza h6;obtain⟨wr',m5,h9,h10⟩:=zza h8
      split at h10
      · cases zzc h10
      trivial
  · rename_i fop cargs tys hop;obtain⟨fv,m3,h5,h6⟩:=zza h4
    split at h6
    case h_2=>trivial
    rename_i f' caps
    split at h6
    case h_1=>trivial
    rename_i fn0 hfn0;obtain⟨_,m40,h60,h61⟩:=zza h6;obtain⟨avs,m4,h7,h8⟩:=zza h61;have hg:=zzd h60;simp only[zzk,Bool.not_eq_true']at hg
    rcases Rl h8 with⟨hgn,h9⟩|⟨b,n,want,d',z,r1,r2,r3,h9⟩|⟨hcaps,fns',ci,fn,ls',fr,u,dm',m2,m3,q1,q2,q3,q4,q5,q6,qn,q7,q8,h9⟩
    · cases h9
    · grind
    · cases h9
  · split at h4
    · obtain⟨⟨as',c',wr'⟩,m3,h5,h6⟩:=zza h4;cases zzc h6
    · obtain⟨c',m3,h5,h6⟩:=zza h4;cases zzc h6
    trivial
  · split at h4
    · obtain⟨⟨as',v,fr⟩,m3,h5,h6⟩:=zza h4;obtain⟨fr',m4,h7,h8⟩:=zza h6;cases zzc h8
    trivial
theorem yw(hs:Sim P n0 nt β σ s a w){ops:List Oper}{o:Oper}{n:Nat}{want:Bool}{k k' m m':Nat}(hctx:RM.run s (Wf (O:=std E N) ops o) k=.ok ([(n,want)],k'))
    (h:RM.run s (Yy (O:=std E N) [(n,want)]) m=.ok (some true,m')):Facts a [(n,want)]:=by
  unfold Wf at hctx
  split at hctx
  · cases zzc hctx
  split at hctx
  · rename_i d hd;obtain⟨k1,hctx⟩:=zze hctx;cases ht:s.getT d with
    |none=>rw[ht]at hctx;trivial
    |some tv=>
      rw[ht]at hctx;have e:=zzc hctx;simp only[List.cons.injEq,Prod.mk.injEq]at e;obtain⟨⟨rfl,rfl⟩,e3⟩:=e;obtain⟨m1,h⟩:=zze h;rw[ht]at h;simp only at h
      split at h
      · rename_i gs b heq;cases heq;simp only at e3;subst e3;obtain⟨g1,m2,h1,h2⟩:=zza h;cases zzc h1;have e4:=zzc h2;intro n' b' hm;simp only[List.mem_cons,Prod.mk.injEq,List.not_mem_nil,or_false]at hm;obtain⟨rfl,rfl⟩:=hm;have hb:a.tmps.getD n' undef=.bool b:=by
          rcases hs.T n' _ ht with⟨_,hr⟩|⟨hu,_⟩
          · obtain⟨r1,r2⟩:=hr;simp only at r2;rw[Bi r2]at r1;exact r1.1
          exact(hu (fun _ _ hm=>by simp at hm)).elim
        grind
      trivial
  trivial
theorem ADd(hs:Sim P n0 nt β σ s a w){done:List Nat}(gi:GI s done){d:Nat}(hd:d∉done)(hdn:d<nt){new:Nat→Prop}(hnew:∀n,new n→Fresh a s n){s2:St0 E N}(htm:s2.tm=s.tm)
    (x:Ext P n0 new β σ s w β' σ' s2 w') (m:Mem P n0 β' σ' s2 w') {av:AV (std E N)} {z:Value} (hr:RelAV P n0 β' σ' s2 w' av z) :
    Sim P n0 nt β' σ' { s2 with tm:=Gl s2.tm d (some ⟨[],av⟩) } (a.put (some d) z) w':=by
  have gT:∀n,({ s2 with tm:=Gl s2.tm d (some ⟨[],av⟩) }:St0 E N).getT n=if n=d∧d<Fo then some ⟨[],av⟩else s.getT n:=fun n=>by
    unfold State.getT;rw[←htm];exact Es _ _ _ _
  have sub:Sub s2 ({ s2 with tm:=Gl s2.tm d (some ⟨[],av⟩) }:St0 E N):=Sub.of_same (fun _=>rfl) (fun _=>rfl);have x2:=sub.ext P n0 (fun _=>False) β' σ' w';have ne:∀{g:Nat×Bool},g.1∈done→g.1≠d:=fun hg e=>hd (e▸hg)
  refine⟨Nat.le_trans hs.n0le x.size,by simp[Act.put,hs.size],fun n tv hn=>?_,sub.mem m,(hs.kept.ext x).ext x2⟩;rw[gT]at hn
  split at hn
  · rename_i he;cases hn;rw[he.1,NL (by rw[hs.size];exact hdn)];exact .inl ⟨fun n b hm=>by simp at hm,x2.relAV (fun _ _ h=>h) hr⟩
  rename_i he;have hnd:n≠d:=fun e=>by
    by_cases hb:d<Fo
    · omega
    rw[e,uu hb]at hn;cases hn
  rw[F3 hnd];have hg:∀g∈tv.gs,g.1≠d:=fun g hg=>ne (gi n tv hn g hg)
  rcases hs.T n tv hn with⟨h1,h2⟩|⟨h1,h2⟩
  · exact .inl ⟨(HV hg).2 h1,x2.relAV (fun _ _ h=>h) (x.relAV (fun k hk hnw=>(hnew k hnw).t n tv hn h1 hk) h2)⟩
  exact .inr ⟨fun h=>h1 ((HV hg).1 h),h2⟩
theorem Ty(inl:Inl E N)(hInl:lg P inl)(hΓ:GamOK P E N cfg){ops:Array Oper}(hnd:(Ar ops.toList).Nodup)
    (hg:∀(k:Nat) (o:Oper),ops.toList[k]?=some o→∀j want,o.guard=some (j,want)→j<k) (hdn:∀d∈Ar ops.toList,d<nt) {Q:Exit→Act→World→Prop} {r:List PV} :
    ∀(rest pre:List Oper) (id:Nat) (s:St0 E N) (ms:List (Nat×Nat)) (k:St0 E N→List (Nat×Nat)→Option (List PV)) (β:Nat→Option Nat) (σ:Nat→Option (Nat×Nat)) (a:Act) (w:World),ops.toList=pre++rest →
      Eb (O:=std E N) P cfg inl ops.toList false rest id s ms k=some r→Sim P n0 nt β σ s a w→GI s (Ar pre)→(∀n,id≤n→Fresh a s n) →
      (∀(s':St0 E N) (ms':List (Nat×Nat)) (id':Nat) (β':Nat→Option Nat) (σ':Nat→Option (Nat×Nat)) (a':Act) (w':World),k { s' with st:=id' } ms'=some r→Post P n0 nt id (fun n=>n∈Ar rest) β σ s a w β' σ' s' a' w'→id≤id'→(∀n,id'≤n→Fresh a' s' n)→GI s' (Ar ops.toList)→Q .normal a' w') →
      wpOps P ops Q (List.range' pre.length rest.length) a w
  | [],pre,id,s,ms,k,β,σ,a,w,hops,h,hs,gi,hf,hQ=>by
    have:Eb (O:=std E N) P cfg inl ops.toList false [] id s ms k=k { s with st:=id } ms:=rfl;rw[this]at h;refine hQ s ms id β σ a w h ⟨hs,Ext.refl _ _ _ _ _ _ _,fun n e h _=>h,fun n e h _=>h,rfl,fun _ _=>rfl⟩ (Nat.le_refl _) hf ?_
    simp_all
  |o::rest,pre,id,s,ms,k,β,σ,a,w,hops,h,hs,gi,hf,hQ=>by
    have hgetL:ops.toList[pre.length]?=some o:=by simp_all
    have hget:ops[pre.length]?=some o:=by grind
    have hdl:Ar ops.toList=Ar pre++(o.dst.toList++Ar rest):=by
      rw[hops,MT];congr 1;simp only[Ar]
      grind
    rw[hdl]at hnd;have hnd2:=(List.nodup_append.1 hnd);have hdone:∀j want d,o.guard=some (j,want)→(ops[j]?).bind (·.dst)=some d→d∈Ar pre:=fun j want d h1 h2=>by
      have hj:=hg pre.length o hgetL j want h1;obtain⟨x,hx,hxd⟩:=Option.bind_eq_some_iff.1 h2;rw[←Array.getElem?_toList,hops,List.getElem?_append_left hj]at hx;exact H3 hx hxd
    have hdst:∀d,o.dst=some d→d∉Ar pre∧d<nt:=fun d hd=>by
      refine⟨fun hm=>hnd2.2.2 d hm d (by simp[hd]) rfl,hdn d (by simp_all)⟩
    have hpre2:ops.toList=(pre++[o])++rest:=by simp_all
    have hlen:(pre++[o]).length=pre.length+1:=by simp
    have hgi2:∀{s':St0 E N},GI s' (o.dst.toList++Ar pre)→GI s' (Ar (pre++[o])):=fun{s'} g=>g.mono (fun x hx=>by
      rw[MT]
      rcases List.mem_append.1 hx with h|h
      · refine List.mem_append_right _ ?_;simp only[Ar]
        simp_all
      simp_all)
    have next:∀(wr:Wr (std E N)) (ms2:List (Nat×Nat)),Eb (O:=std E N) P cfg inl ops.toList false rest (id+Bn P o) (s.apply wr) ms2 k=some r→∀a' w',After P n0 nt (fun n=>id≤n∧n<id+Bn P o) β σ s a w o.dst wr a' w'→GI (s.apply wr) (o.dst.toList++Ar pre) →
        wpOps P ops Q (List.range' (pre.length+1) rest.length) a' w':=fun wr ms2 h a' w' ha hg2=>by
      obtain⟨β',σ',p1,p2⟩:=ha.post;rw[←hlen];refine Ty inl hInl hΓ (by simp_all) hg hdn rest (pre++[o]) (id+Bn P o) (s.apply wr) ms2 k β' σ' a' w' hpre2 h p1.sim (hgi2 hg2) (fun n hn=>p2 n hf hn) (fun s' ms' id' β'' σ'' a'' w'' hk hp hle hf' hg'=>?_);have hpt:=p1.trans hp (Nat.le_add_right _ _);refine hQ s' ms' id' β'' σ'' a'' w'' hk ⟨hpt.sim,hpt.ext,hpt.cleanB,hpt.cleanH,hpt.defers,fun n hn=>hpt.tmps n (fun h=>hn ?_)⟩ (by omega) hf' hg';simp only[Ar]
      grind
    have doInl:∀(ctx:List (Nat×Bool)) (f:FuncId) (fop:Operand) (cargs:Array Operand) (tys:Array TypeId) (caps:List (Cap (std E N))) (avs:List (AV (std E N))) (fn:Func) (m2 m3 m4 m5:Nat),Facts a ctx→Region.wanted o (yielded ops a.tmps)=true→o.op=.call ⟨.value fop,cargs,tys⟩ →
        RM.run s (ev (O := std E N) P ctx 0 fop) m2 = .ok (.val ⟨false, [.fn f caps]⟩, m3) → P.funcs[f]? = some fn → fn.body.isSome = true → (fn.name == "runtime.NumGoroutine") = false → RM.run s (Zi (O := std E N) P ctx (fn.params.toList.take cargs.size) cargs.toList) m4 = .ok (avs, m5) →
        inl f (avs++caps.map fun c=>one c.ac) { s with st:=id+Bn P o } (fun v s'=>Eb (O:=std E N) P cfg inl ops.toList false rest s'.st (match o.dst with|some d=>{ s' with tm:=Gl s'.tm d (some ⟨[],v⟩) } | none=>s') (ms++[(0,0)]) k)=some r →
        wpOp P ops Q pre.length (wpOps P ops Q (List.range' (pre.length+1) rest.length)) a w:=fun ctx f fop cargs tys caps avs fn m2 m3 m4 m5 hf0 hw hop hev hfn hbody hname hall h=>by
      obtain⟨hv1,hvn⟩:=Wa hs hf0 hev;have hargs:=jL hs hf0 hall;have hnm:=ge hs hf0 hall;obtain⟨vs,e1,e2,e3⟩:∃vs:List Value,a.eval fop=.func (.func f) #[] vs.toArray∧vs.length=caps.length∧∀(i:Nat) (c:Cap (std E N)),caps[i]?=some c→∃x:Value,vs[i]?=some x∧Uq P n0 β σ s w c x:=by
        obtain⟨hr1,hr2⟩:=hv1;have hr2:(a.eval fop).oneCell'=true:=hr2;rw[Bi hr2]at hr1;exact hr1.1
      have hnb:fn.body.isNone=false:=by simp_all
      have hex:(execOp a.eval o).run P w=.ok (.enter f (cargs.map a.eval++vs.toArray)) w:=by
        simp only[beq_eq_false_iff_ne,ne_eq]at hname;simp[execOp,hop,resolve,Deferred.ofValue,e1,invoke,callFunc,hfn,hname,hnb]
        grind
      have subst0:Sub s ({ s with st:=id+Bn P o }:St0 E N):=Sub.of_same (fun _=>rfl) (fun _=>rfl);have hcall:=hInl f _ _ _ r h n0 β σ w (cargs.toList.map a.eval++vs) hs.n0le (subst0.mem hs.M) (hs.kept.ext (subst0.ext P n0 (fun _=>False) β σ w)) (fun n hn=>⟨fun q e he=>(hf n (by grind)).b q e he,fun q e he=>(hf n (by grind)).h q e he⟩)
        (fun x hx n hn=>by
          rcases Nat.lt_or_ge n (id+Bn P o)with h|h
          · exact h
          · have hfn:=hf n (by omega)
            rcases List.mem_append.1 hx with hx|hx
            · simp_all
            · obtain⟨p,hp,rfl⟩:=List.mem_map.1 hx;refine(hvn n hfn ?_).elim;simp only[AV.names,AJ,AC.names,List.append_nil];cases p with
              |box b o=>
                have:n=b:=by simpa[AV.names,one,AJ,AC.names,Cap.ac]using hn
                subst this;obtain⟨i,hi,e⟩:=List.mem_iff_getElem.1 hp;exact Vs (i:=i) (by rw[zzo hi,e])
              |row e l=>trivial)
        (by
          exact(subst0.ext P n0 (fun _=>False) β σ w).relArgs (RelArgs.append hargs (tL (n0:=n0) (P:=P) (σ:=σ) (w:=w) e2 e3)))
      unfold wpOp;simp only[hget,hw,if_true];refine .inl ?_;unfold Oper.wp;rw[hex];have harr:(cargs.toList.map a.eval++vs).toArray=cargs.map a.eval++vs.toArray:=by simp_all
      rw[harr]at hcall;refine Calls.mono hcall (fun e w' hp=>?_);cases e with
      |panicked ch=>trivial
      |outgrown=>trivial
      |returned v=>
        obtain⟨av,s2,β',σ',hk,htm,hst,hm,hx,hcb,hch,hrel,hfr⟩:=hp;have hst':id+Bn P o≤s2.st:=hst;have x0:Ext P n0 (fun n=>id≤n) β σ s w β' σ' s2 w':=((subst0.ext P n0 (fun _=>False) β σ w).trans hx).weaken (fun n h=>h.elim (fun h=>h.elim) (fun h=>by grind));have hnew:∀n,id≤n→Fresh a s n:=hf;have gT2:∀n,s2.getT n=s.getT n:=fun n=>by unfold State.getT;simp_all
        rw [← hlen];have tail:∀ (s3:St0 E N) (a3:Act),Eb (O:=std E N) P cfg inl ops.toList false rest s2.st s3 (ms++[(0,0)]) k=some r→Post P n0 nt id (fun n=>o.dst=some n) β σ s a w β' σ' s3 a3 w'→GI s3 (o.dst.toList++Ar pre)→(∀ n,s2.st≤n→Fresh a3 s3 n) →
            wpOps P ops Q (List.range' (pre++[o]).length rest.length) a3 w':=fun s3 a3 hk3 hp3 hg3 hf3=>by
          refine Ty inl hInl hΓ (by simp_all) hg hdn rest (pre++[o]) s2.st s3 (ms++[(0,0)]) k β' σ' a3 w' hpre2 hk3 hp3.sim (hgi2 hg3) hf3 (fun s' ms' id' β'' σ'' a'' w'' hkk hpp hle hf' hg'=>?_);have hpt:=hp3.trans hpp (by omega);refine hQ s' ms' id' β'' σ'' a'' w'' hkk ⟨hpt.sim,hpt.ext,hpt.cleanB,hpt.cleanH,hpt.defers,fun n hn=>hpt.tmps n (fun h=>hn ?_)⟩ (by omega) hf' hg';simp only[Ar]
          grind
        cases hd:o.dst with
        |none=>
          rw[hd]at hk tail;refine tail s2 a hk ⟨⟨Nat.le_trans hs.n0le x0.size,hs.size,fun n tv hn=>?_,hm,hs.kept.ext x0⟩,x0,hcb,hch,rfl,fun _ _=>rfl⟩ (fun n tv hn=>gi n tv (by simp_all)) (fun n hn=>⟨fun q tv hq hg=>?_,(hfr n hn).1.1,(hfr n hn).1.2⟩)
          · rw[gT2]at hn
            rcases hs.T n tv hn with⟨h1,h2⟩|⟨h1,h2⟩
            · exact .inl ⟨h1,x0.relAV (fun q hq hnw=>(hnew q hnw).t n tv hn h1 hq) h2⟩
            · exact .inr ⟨h1,h2⟩
          · rw[gT2]at hq;exact(hf n (by omega)).t q tv hq hg
        |some d=>
          rw[hd]at hk tail;have hdd:=hdst d hd;have gT3:∀n,({ s2 with tm:=Gl s2.tm d (some ⟨[],av⟩) }:St0 E N).getT n=if n=d∧d<Fo then some ⟨[],av⟩else s.getT n:=fun n=>by
            unfold State.getT;rw[←show s2.tm=s.tm from htm];exact Es _ _ _ _
          refine tail { s2 with tm:=Gl s2.tm d (some ⟨[],av⟩) } (a.put (some d) v) hk ⟨ADd hs gi hdd.1 hdd.2 hnew htm x0 hm hrel,?_,hcb,hch,rfl,fun n hn=>F3 (fun e=>hn (by rw[e]))⟩ (fun n tv hn g hg=>?_) (fun n hn=>⟨fun q tv hq hg=>?_,(hfr n hn).1.1,(hfr n hn).1.2⟩)
          · exact(x0.trans ((Sub.of_same (s:=s2) (s':={ s2 with tm:=Gl s2.tm d (some ⟨[],av⟩) }) (fun _=>rfl) (fun _=>rfl)).ext P n0 (fun _=>False) β' σ' w')).weaken (fun n h=>h.elim (fun h=>h) (fun h=>h.elim))
          · rw[gT3]at hn
            split at hn
            · grind
            · exact List.mem_append_right _ (gi n tv hn g hg)
          · rw[gT3]at hq
            split at hq
            · grind
            · rename_i hne;exact(hf n (by omega)).t q tv hq ((HV (d:=d) (v:=v) (fun g hg2 e=>hdd.1 (by have:=gi q tv hq g hg2;simp_all))).1 hg)
    rw[List.length_cons,List.range'_succ,wpOps_cons];unfold Eb at h
    split at h
    · cases h
    · rename_i as wr rd hrun;obtain⟨has,h2⟩:=WK h;exact cm hs gi hdone hdst (fun n h1 _=>hf n h1) hget hrun has (fun a' w' ha hg2=>next wr _ h2 a' w' ha hg2)
    · rename_i g f fns args dm nx rd hrun;obtain⟨c,hc,h2⟩:=Option.bind_eq_some_iff.1 h
      split at h2
      · cases h2
      · rename_i wr hn;exact gw hΓ hs gi hdone hdst (fun n h1 _=>hf n h1) hget hrun (c:=c) (by
          grind) hn (fun a' w' ha hg2=>next wr _ h2 a' w' ha hg2)
    · rename_i f args rd hrun;obtain⟨fop,cargs,tys,caps,avs,fn,m1,m2,m3,m4,m5,hop,hctx,hev,hfn,hbody,hname,hall,rfl⟩:=zO hrun;have hf0:Facts a []:=fun n b hm=>by simp at hm
      exact doInl [] f fop cargs tys caps avs fn _ _ _ _ hf0 ((mF hs gi hctx hdone).1.2 hf0) hop hev hfn hbody hname hall h
    · rename_i g f args w0 rd hrun;obtain⟨fop,cargs,tys,caps,avs,fn,n,want,d,z,m1,m2,m3,m4,m5,m6,hop,hctx,hgb,hev,hfn,hbody,hname,hall,rfl,hd,rfl⟩:=wO hrun;obtain⟨c1,c2,c3⟩:=mF hs gi hctx hdone
      by_cases hw:Region.wanted o (yielded ops a.tmps)=true
      · have hf0:=c1.1 hw;have hg1:=XE hs hf0 hgb g rfl;subst hg1;exact doInl _ f fop cargs tys caps avs fn _ _ _ _ hf0 hw hop hev hfn hbody hname hall h
      · have hgf:g=false:=by
          cases hgv:g with
          |false=>rfl
          |true=>
            rw[hgv]at hgb;exact(hw (c1.2 (yw hs hctx hgb))).elim
        subst hgf;have sub:Sub s (s.apply ({}:Wr (std E N))):=Sub.of_same (fun n=>State.getB_apply0 s _ rfl n) (fun n=>State.getH_apply0 s _ rfl n);have hdd:=hdst d hd;unfold wpOp;simp only[hget,hw];have hK:=next { ts:=[(d,some ⟨[(n,want)],.val z⟩)] } _ h (a.put (some d) undef) w (by
          rw[hd];exact JB (bs:=[]) (hh:=[]) hs gi hdd.1 hdd.2 (fun n h=>hf n h.1) c2 (sub.mem hs.M) (sub.ext P n0 _ β σ w) (Tidy.of_sub (fr:=[]) (fun _ _ h=>by simp at h) rfl rfl rfl _) (.inr ⟨fun h=>hw (c1.2 h),rfl⟩)) (by rw[hd];exact GI.put gi c2 rfl)
        simp_all
end
section
variable {E:Env} {N:Nat} {P:Program} {cfg:Cfg} {n0 n0':Nz} {nt:Nat} {β β':Nat→Option Nat} {σ σ':Nat→Option (Nat×Nat)} {s s':St0 E N} {a:Act} {w w':World}
theorem eX{O:Alg}:∀(d:Nat) (t:TM (TV O)) (n:Nat),TM.get d (Fp t) n=match TM.get d t n with
    |some tv=>match tv.gs with
      | []=>some tv
      |_=>none
    |none=>none
  |0,.e,n=>rfl
  |0,.leaf tv,n=>by
    cases h:tv.gs<;>simp[Fp,h,TM.get]
  |0,.node l r,n=>rfl
  |d+1,.e,n=>rfl
  |d+1,.leaf tv,n=>by
    cases h:tv.gs<;>simp[Fp,h,TM.get]
  |d+1,.node l r,n=>by
    simp only[Fp,TM.get];cases h:Nat.beq (n%2) 0
    · exact eX d r (n / 2)
    exact eX d l (n / 2)
structure WF(s:St0 E N):Prop where
 fresh:∀n,s.st≤n→Mu s n∧∀k tv,s.getT k=some tv→n∉tv.v.names
 gs:∀n tv,s.getT n=some tv→tv.gs=[]
theorem WF.gi(h:WF s):GI s []:=fun n tv hn g hg=>by rw[h.gs n tv hn]at hg;simp at hg
theorem WF.free(h:WF s)(a:Act):∀n,s.st≤n→Fresh a s n:=fun n hn=>⟨fun k tv hk _=>(h.fresh n hn).2 k tv hk,(h.fresh n hn).1.1,(h.fresh n hn).1.2⟩
theorem wE(s:St0 E N)(q n:Nat):({ s with tm:=Fp s.tm,st:=q }:St0 E N).getT n=match s.getT n with
    |some tv=>match tv.gs with
      | []=>some tv
      |_=>none
    |none=>none:=by
  unfold State.getT Dh;cases Nat.blt n Fo
  · rfl
  show TM.get fh (Fp s.tm) n=_;rw[eX]
  grind
theorem Hv{q n:Nat}{tv:TV (std E N)}(h:({ s with tm:=Fp s.tm,st:=q }:St0 E N).getT n=some tv):s.getT n=some tv∧tv.gs=[]:=by
 rw[wE]at h
 grind
theorem Sim.purged(hs:Sim P n0 nt β σ s a w)(q:Nat):Sim P n0 nt β σ { s with tm:=Fp s.tm,st:=q } a w:=by
 have sub:Sub s ({ s with tm:=Fp s.tm,st:=q }:St0 E N):=Sub.of_same (fun _=>rfl) (fun _=>rfl);refine⟨hs.n0le,hs.size,fun n tv hn=>?_,sub.mem hs.M,hs.kept.ext (sub.ext P n0 (fun _=>False) β σ w)⟩;obtain⟨h1,h2⟩:=Hv hn
 rcases hs.T n tv h1 with⟨h3,h4⟩|⟨h3,h4⟩
 ·exact .inl ⟨h3,(sub.ext P n0 (fun _=>False) β σ w).relAV (fun _ _ h=>h) h4⟩
 exact .inr ⟨h3,h4⟩
theorem Pc:∀{l:List Nat},mW l=true→l.Nodup
 | [],_=>List.nodup_nil
 |n::l,h=>by
  simp only[mW,zzk,Bool.not_eq_true']at h;exact List.nodup_cons.2 ⟨fun hm=>(by have:=Dn.2 hm;simp_all),Pc h.2⟩
theorem OT:∀{l:List Oper},M8 nt l=true→∀d∈Ar l,d<nt
 | [],_,d,hd=>by trivial
 |o::l,h,d,hd=>by
  simp only[M8,zzk]at h;simp only[Ar]at hd;cases ho:o.dst with
  |none=>rw[ho]at hd;exact OT h.2 d hd
  |some x=>
   rw[ho]at hd h
   rcases List.mem_cons.1 hd with rfl|hd
   ·simp_all
   exact OT h.2 d hd
theorem yc(inl:Inl E N)(hInl:lg P inl)(hΓ:GamOK P E N cfg){ops:Array Oper}{rid:Nat}(hdn:M8 nt ops.toList=true){Q:Exit→Act→World→Prop}{r:List PV}
    {k:St0 E N→Option (List PV)} (h:Le (O:=std E N) P cfg inl ops.toList false s k=some r) (hs:Sim P n0 nt β σ s a w) (wf:WF s)
    (hQ:∀(s':St0 E N) (β':Nat→Option Nat) (σ':Nat→Option (Nat×Nat)) (a':Act) (w':World),k s'=some r→Post P n0 nt s.st (fun n=>n∈Ar ops.toList) β σ s a w β' σ' s' a' w'→WF s'→s.st≤s'.st→Q .normal a' w') :
    (Code.region rid ops false).wp P Q a w:=by
  unfold Le at h
  split at h
  · cases h
  rename_i hok;simp only[zzk]at hok;have hg:=cy hok.2.1;simp only[Bool.false_and]at h;refine wp_region ?_;have hr:List.range ops.size=List.range' ([]:List Oper).length ops.toList.length:=by simp[List.range_eq_range']
  rw[hr];refine Ty inl hInl hΓ (Pc hok.1) (fun k o ho j want hgd=>by grind) (OT hdn) ops.toList [] s.st s [] _ β σ a w rfl h hs wf.gi (wf.free a) (fun s' ms' id' β' σ' a' w' hk hp hle hf hgi=>?_);have wf':WF ({ s' with tm:=Fp s'.tm,st:=id' }:St0 E N):=⟨fun n hn=>⟨⟨(hf n hn).b,(hf n hn).h⟩,fun k tv hk=>by
    obtain⟨h1,h2⟩:=Hv hk;exact(hf n hn).t k tv h1 (fun m b hm=>by simp_all)⟩,fun n tv hn=>(Hv hn).2⟩
  have sub:Sub s' ({ s' with tm:=Fp s'.tm,st:=id' }:St0 E N):=Sub.of_same (fun _=>rfl) (fun _=>rfl);exact hQ _ β' σ' a' w' hk ⟨hp.sim.purged id',(hp.ext.trans (sub.ext P n0 (fun _=>False) β' σ' w')).weaken (fun n h=>h.elim (fun h=>h) (fun h=>h.elim)),hp.cleanB,hp.cleanH,hp.defers,hp.tmps⟩ wf' hle
end
section
variable {E:Env} {N:Nat} {P:Program} {cfg:Cfg} {n0 n0':Nz} {nt:Nat} {β β':Nat→Option Nat} {σ σ':Nat→Option (Nat×Nat)} {s s' s2:St0 E N} {a:Act} {w w':World}
def Cp(s:St0 E N)(p:Nat):Option (TV (std E N))×Option (BEnt (std E N))×Option (HEnt (std E N)):=
  (if p%3=0 then s.getT (p / 3)else none,if p%3=1 then s.getB (p / 3)else none,if p%3=2 then s.getH (p / 3)else none)
def Same(s s':St0 E N):Prop:=∀p,Cp s p=Cp s' p
theorem sW{n:Nat}(h:Cp s (3*n)=Cp s' (3*n)):s.getT n=s'.getT n:=by
 have h0:(3*n)%3=0:=by omega
 have h1:(3*n) / 3=n:=by omega
 have:=congrArg (fun x=>x.1) h;simpa[Cp,h0,h1]using this
theorem z8{n:Nat}(h:Cp s (3*n+1)=Cp s' (3*n+1)):s.getB n=s'.getB n:=by
 have h0:(3*n+1)%3=1:=by omega
 have h1:(3*n+1) / 3=n:=by omega
 have:=congrArg (fun x=>x.2.1) h;simpa[Cp,h0,h1]using this
theorem fF{n:Nat}(h:Cp s (3*n+2)=Cp s' (3*n+2)):s.getH n=s'.getH n:=by
 have h0:(3*n+2)%3=2:=by omega
 have h1:(3*n+2) / 3=n:=by omega
 have:=congrArg (fun x=>x.2.2) h;simpa[Cp,h0,h1]using this
theorem Same.T(h:Same s s')(n:Nat):s.getT n=s'.getT n:=sW (h _)
theorem Same.B(h:Same s s')(n:Nat):s.getB n=s'.getB n:=z8 (h _)
theorem Same.H(h:Same s s')(n:Nat):s.getH n=s'.getH n:=fF (h _)
theorem Same.refl(s:St0 E N):Same s s:=fun _=>rfl
theorem Same.symm(h:Same s s'):Same s' s:=fun p=>(h p).symm
theorem Same.trans(h:Same s s')(k:Same s' s2):Same s s2:=fun p=>(h p).trans (k p)
theorem Same.sub(h:Same s s'):Sub s s':=Sub.of_same (fun n=>(h.B n).symm) (fun n=>(h.H n).symm)
theorem Same.of(hT:∀n,s.getT n=s'.getT n)(hB:∀n,s.getB n=s'.getB n)(hH:∀n,s.getH n=s'.getH n):Same s s':=fun p=>by
 simp only[Cp,hT,hB,hH]
theorem Sim.same(hs:Sim P n0 nt β σ s a w)(h:Same s s'):Sim P n0 nt β σ s' a w:=
 ⟨hs.n0le,hs.size,fun n tv hn=>by
  rw[←h.T]at hn
  rcases hs.T n tv hn with⟨h1,h2⟩|h1
  ·exact .inl ⟨h1,(h.sub.ext P n0 (fun _=>False) β σ w).relAV (fun _ _ h=>h) h2⟩
  exact .inr h1,h.sub.mem hs.M,hs.kept.ext (h.sub.ext P n0 (fun _=>False) β σ w)⟩
theorem Fresh.same{n:Nat}(hf:Fresh a s n)(h:Same s s'):Fresh a s' n:=
 ⟨fun k tv hk=>hf.t k tv (by rw[h.T];exact hk),fun k e hk=>hf.b k e (by rw[h.B];exact hk),fun k e hk=>hf.h k e (by rw[h.H];exact hk)⟩
theorem GI.same{done:List Nat}(gi:GI s done)(h:Same s s'):GI s' done:=fun n tv hn=>gi n tv (by rw[h.T];exact hn)
theorem Post.same{L:Nat}{D:Nat→Prop}{a':Act}(p:Post P n0 nt L D β σ s a w β' σ' s' a' w')(h:Same s' s2):Post P n0 nt L D β σ s a w β' σ' s2 a' w':=
 ⟨p.sim.same h,(p.ext.trans (h.sub.ext P n0 (fun _=>False) β' σ' w')).weaken (fun n hn=>hn.elim (fun h=>h) (fun h=>h.elim)),fun n e he=>p.cleanB n e (by rw[h.B];exact he),fun n e he=>p.cleanH n e (by rw[h.H];exact he),p.defers,p.tmps⟩
theorem Dg{k p:Nat}:(C3 k).testBit p=true↔k=p:=by
 unfold C3
 grind
theorem Ym(f:Nat→Nat){α:Type}:∀(l:List (Nat×α)) (p:Nat),(Vb f l).testBit p=true↔∃n,n∈l.map (·.1)∧f n=p
 | [],p=>by simp[Vb]
 |(n,v)::l,p=>by
  simp only[Vb,Nat.testBit_or,Bool.or_eq_true,Dg,Ym f l p,List.map_cons,List.mem_cons]
  simp_all
theorem Vo{wr:Wr (std E N)}{p:Nat}:wr.mask.testBit p=true↔(∃n,n∈wr.ts.map (·.1)∧3*n=p)∨(∃n,n∈wr.bs.map (·.1)∧3*n+1=p)∨(∃n,n∈wr.hs.map (·.1)∧3*n+2=p):=by
 simp only[Wr.mask,Nat.testBit_or,Bool.or_eq_true,Ym,or_assoc]
theorem UG:∀{ts:List (Nat×Option (TV (std E N)))} {t:TM (TV (std E N))} {n:Nat},n∉ts.map (·.1)→Dh (State.applyT t ts) n=Dh t n
 | [],t,n,_=>rfl
 |(k,v)::r,t,n,h=>by
  simp only[List.map_cons,List.mem_cons,not_or]at h;simp only[State.applyT];rw[UG h.2,Es,if_neg (fun e=>h.1 e.1)]
theorem ph:∀{ts:List (Nat×Option (TV (std E N)))} {t t':TM (TV (std E N))} {n:Nat},n∈ts.map (·.1)→Dh (State.applyT t ts) n=Dh (State.applyT t' ts) n
 | [],t,t',n,h=>by simp at h
 |(k,v)::r,t,t',n,h=>by
  simp only[State.applyT]
  by_cases hr:n∈r.map (·.1)
  ·exact ph hr
  rw[UG hr,UG hr,Es,Es];have hk:n=k:=by
   simp_all
  by_cases hb:k<Fo
  ·simp_all
  rw[if_neg (fun e=>hb e.2),if_neg (fun e=>hb e.2)];have hn:Nat.blt n Fo=false:=by
   cases h:Nat.blt n Fo
   ·rfl
   exact(hb (hk▸A5.1 h)).elim
  unfold Dh;rw[hn]
theorem dy{α:Type}:∀{ts:List (Nat×Option α)} {t t':List (Nat×α)} {n:Nat},n∈ts.map (·.1)→AN (BR t ts) n=AN (BR t' ts) n
 | [],t,t',n,h=>by simp at h
 |(k,v)::r,t,t',n,h=>by
  simp only[BR]
  by_cases hr:n∈r.map (·.1)
  ·exact dy hr
  rw[Eu hr,Eu hr,BW,BW]
  simp_all
theorem MJ{wr:Wr (std E N)}{p:Nat}(h:¬wr.mask.testBit p=true):Cp (s.apply wr) p=Cp s p:=by
 rw[Vo]at h;have hT:p%3=0→(s.apply wr).getT (p / 3)=s.getT (p / 3):=fun hp=>UG (fun hm=>h (.inl ⟨p / 3,hm,by omega⟩))
 have hB:p%3=1→(s.apply wr).getB (p / 3)=s.getB (p / 3):=fun hp=>Eu (fun hm=>h (.inr (.inl ⟨p / 3,hm,by omega⟩)))
 have hH:p%3=2→(s.apply wr).getH (p / 3)=s.getH (p / 3):=fun hp=>Eu (fun hm=>h (.inr (.inr ⟨p / 3,hm,by omega⟩)))
 rcases(by omega:p%3=0∨p%3=1∨p%3=2)with hp|hp|hp
 ·simp[Cp,hp,hT hp]
 ·simp[Cp,hp,hB hp]
 simp[Cp,hp,hH hp]
theorem cB{wr:Wr (std E N)}{p:Nat}(h:wr.mask.testBit p=true)(s s':St0 E N):Cp (s.apply wr) p=Cp (s'.apply wr) p:=by
 rw[Vo]at h
 rcases h with⟨n,hn,rfl⟩|⟨n,hn,rfl⟩|⟨n,hn,rfl⟩
 ·have h0:(3*n)%3=0:=by omega
  have h1:(3*n) / 3=n:=by omega
  have:(s.apply wr).getT n=(s'.apply wr).getT n:=ph (t:=s.tm) (t':=s'.tm) hn;simpa[Cp,h0,h1]using this
 ·have h0:(3*n+1)%3=1:=by omega
  have h1:(3*n+1) / 3=n:=by omega
  have:(s.apply wr).getB n=(s'.apply wr).getB n:=dy (t:=s.bx) (t':=s'.bx) hn;simpa[Cp,h0,h1]using this
 have h0:(3*n+2)%3=2:=by omega
 have h1:(3*n+2) / 3=n:=by omega
 have:(s.apply wr).getH n=(s'.apply wr).getH n:=dy (t:=s.hp) (t':=s'.hp) hn;simpa[Cp,h0,h1]using this
theorem Un{α:Type}:∀{r:RM (std E N) α} {m m':Nat} {x:α},RM.run s r m=.ok (x,m')→∀p,m.testBit p=true→m'.testBit p=true:=by
 intro r
 induction r with
 |ret v=>intro m m' x h p hp;simp only[RM.run]at h;simp_all
 |fail w=>intro m m' x h;trivial
 |t n f ih=>intro m m' x h p hp;exact ih _ h p (by simp_all)
 |b n f ih=>intro m m' x h p hp;exact ih _ h p (by simp_all)
 |h n f ih=>intro m m' x h p hp;exact ih _ h p (by simp_all)
theorem qE{α:Type}:∀{r:RM (std E N) α} {m m':Nat} {x:α},RM.run s r m=.ok (x,m')→(∀p,m'.testBit p=true→Cp s p=Cp s' p)→RM.run s' r m=.ok (x,m'):=by
 intro r
 induction r with
 |ret v=>intro m m' x h _;exact h
 |fail w=>intro m m' x h _;trivial
 |t n f ih=>
  intro m m' x h ha;have hb:m'.testBit (3*n)=true:=Un (r:=f (s.getT n)) h _ (by rw[Nat.testBit_or,Dg.2 rfl,Bool.or_true]);simp only[RM.run]at h⊢;rw[←sW (ha _ hb)]
  grind
 |b n f ih=>
  intro m m' x h ha;have hb:m'.testBit (3*n+1)=true:=Un (r:=f (s.getB n)) h _ (by rw[Nat.testBit_or,Dg.2 rfl,Bool.or_true]);simp only[RM.run]at h⊢;rw[←z8 (ha _ hb)]
  grind
 |h n f ih=>
  intro m m' x h ha;have hb:m'.testBit (3*n+2)=true:=Un (r:=f (s.getH n)) h _ (by rw[Nat.testBit_or,Dg.2 rfl,Bool.or_true]);simp only[RM.run]at h⊢;rw[←fF (ha _ hb)]
  grind
structure Rc(E:Env)(N:Nat) where
 id:Nat
 rd:Nat
 wr:Wr (std E N)
def stD(D:Nat→Bool):Nat→List (Rc E N)→St0 E N→St0 E N
 |_,[],s=>s
 |i,t::tr,s=>stD D (i+1) tr (match D i with|true=>s.apply t.wr|false=>s)
theorem LU{D D':Nat→Bool}{p:Nat}:∀{tr:List (Rc E N)} {i:Nat} {s s':St0 E N},Cp s p=Cp s' p→(∀(k:Nat) (t:Rc E N),tr[k]?=some t→t.wr.mask.testBit p=true→D (i+k)=D' (i+k)) →
    Cp (stD D i tr s) p=Cp (stD D' i tr s') p
  | [],i,s,s',h,_=>h
  |t::tr,i,s,s',h,hd=>by
    simp only[stD];refine LU ?_ (fun k u hk hu=>by have:=hd (k+1) u (by trivial) hu;grind)
    by_cases hb:t.wr.mask.testBit p=true
    · have:=hd 0 t rfl hb;rw[Nat.add_zero]at this;rw[←this];cases D i
      · exact h
      exact cB hb _ _
    have e1:Cp (match D i with|true=>s.apply t.wr|false=>s) p=Cp s p:=by
      cases D i
      · rfl
      exact MJ hb
    have e2:Cp (match D' i with|true=>s'.apply t.wr|false=>s') p=Cp s' p:=by
      cases D' i
      · rfl
      exact MJ hb
    simp_all
theorem TD{D:Nat→Bool}{p:Nat}{t:Rc E N}(s0:St0 E N):∀{tr:List (Rc E N)} {i k:Nat} {s:St0 E N},tr[k]?=some t→D (i+k)=true→t.wr.mask.testBit p=true →
    (∀(j:Nat) (u:Rc E N),k<j→tr[j]?=some u→u.wr.mask.testBit p=true→D (i+j)=false)→Cp (stD D i tr s) p=Cp (s0.apply t.wr) p
  | [],i,k,s,hk,_,_,_=>by simp at hk
  |u::tr,i,0,s,hk,hd,hb,hl=>by
    simp at hk;subst hk;rw[Nat.add_zero]at hd;simp only[stD,hd];have:=LU (D:=D) (D':=fun _=>false) (p:=p) (tr:=tr) (i:=i+1) (s:=s.apply u.wr) (s':=s0.apply u.wr) (cB hb _ _) (fun k v hk hv=>by
      have:=hl (k+1) v (by omega) (by trivial) hv
      grind)
    rw[this];have none:∀(tr:List (Rc E N)) (i:Nat) (s:St0 E N),stD (fun _=>false) i tr s=s:=fun tr=>by
      induction tr with
      |nil=>intro i s;rfl
      |cons v tr ih=>intro i s;exact ih _ _
    rw[none]
  |u::tr,i,k+1,s,hk,hd,hb,hl=>by
    simp only[stD];exact TD s0 (tr:=tr) (i:=i+1) (k:=k) (by trivial) (by grind) hb (fun j v hj hv hp=>by
      have:=hl (j+1) v (by omega) (by trivial) hp
      grind)
def OpGood(P:Program)(cfg:Cfg)(all:List Oper)(o:Oper)(s:St0 E N)(t:Rc E N):Prop:=
  (∃as,RM.run s (FY (O:=std E N) P cfg all o t.id) 0=.ok (.plain as t.wr,t.rd)∧∀b∈as,b=true) ∨
  (∃(g:Option Bool) (f:FuncId) (fns:List Nat) (ls dm:List AW) (next:List PV→Option (Wr (std E N))) (c:List PV),RM.run s (FY (O:=std E N) P cfg all o t.id) 0=.ok (.call g f fns ls dm next,t.rd) ∧
    (match g with|none=>E f fns (ls.map Leaf.pv)|some b=>if b then E f fns (ls.map Leaf.pv)else some (dm.map Leaf.pv))=some c∧next c=some t.wr)
theorem OpGood.agree{all:List Oper}{o:Oper}{t:Rc E N}(h:OpGood P cfg all o s t)(ha:∀p,t.rd.testBit p=true→Cp s p=Cp s' p):OpGood P cfg all o s' t:=by
 rcases h with⟨as,h1,h2⟩|⟨g,f,fns,ls,dm,next,c,h1,h2,h3⟩
 ·exact .inl ⟨as,qE h1 ha,h2⟩
 exact .inr ⟨g,f,fns,ls,dm,next,c,qE h1 ha,h2,h3⟩
def TrOK(P:Program)(cfg:Cfg)(all:List Oper):List Oper→Nat→St0 E N→List (Rc E N)→Prop
 | [],_,_,[]=>True
 |o::r,id,s,t::tr=>t.id=id∧OpGood P cfg all o s t∧TrOK P cfg all r (id+Bn P o) (s.apply t.wr) tr
 |_,_,_,_=>False
theorem TrOK.len{all:List Oper}:∀{r:List Oper} {id:Nat} {s:St0 E N} {tr:List (Rc E N)},TrOK P cfg all r id s tr→tr.length=r.length
 | [],_,_,[],_=>rfl
 |o::r,_,_,t::tr,h=>by simp[h.2.2.len]
 | [],_,_,_::_,h=>h.elim
 |_::_,_,_,[],h=>h.elim
theorem TrOK.good{all:List Oper}:∀{r:List Oper} {id i:Nat} {s:St0 E N} {tr:List (Rc E N)},TrOK P cfg all r id s tr→∀(k:Nat) (o:Oper) (t:Rc E N),r[k]?=some o→tr[k]?=some t→OpGood P cfg all o (stD (fun j=>decide (j<i+k)) i tr s) t
 | [],_,_,_,[],_,k,o,t,hk,_=>by simp at hk
 |o::r,id,i,s,t::tr,h,0,o',t',hk,ht=>by
  simp at hk ht;subst hk;subst ht;have none:∀(tr:List (Rc E N)) (j:Nat) (s:St0 E N),i≤j→stD (fun j=>decide (j<i+0)) j tr s=s:=fun tr=>by
   induction tr with
   |nil=>intro j s _;rfl
   |cons v tr ih=>
    intro j s hj;simp only[stD]
    grind
  rw[none _ _ _ (Nat.le_refl _)];exact h.2.1
 |o::r,id,i,s,t::tr,h,k+1,o',t',hk,ht=>by
  simp only[stD];rw[show decide (i<i+(k+1))=true by simp];have:=TrOK.good (i:=i+1) h.2.2 k o' t' (by trivial) (by trivial)
  grind
 | [],_,_,_,_::_,h,_,_,_,_,_=>h.elim
 |_::_,_,_,_,[],h,_,_,_,_,_=>h.elim
theorem TrOK.ids{all:List Oper}:∀{r:List Oper} {id:Nat} {s:St0 E N} {tr:List (Rc E N)},TrOK P cfg all r id s tr→(∀(k:Nat) (t:Rc E N),tr[k]?=some t→id≤t.id) ∧
    ∀(i j:Nat) (o:Oper) (t u:Rc E N),i<j→r[i]?=some o→tr[i]?=some t→tr[j]?=some u→t.id+Bn P o≤u.id
  | [],_,_,[],_=>⟨fun k t h=>by simp at h,fun i j o t u _ h=>by simp at h⟩
  |o::r,id,s,t::tr,h=>by
    obtain⟨h1,h2⟩:=h.2.2.ids;refine⟨fun k u hk=>?_,fun i j o' t' u hij ho ht hu=>?_⟩
    · cases k with
      |zero=>simp at hk;subst hk;exact Nat.le_of_eq h.1.symm
      |succ k=>grind
    cases j with
    |zero=>omega
    |succ j=>
      cases i with
      |zero=>
        simp at ho ht;subst ho;subst ht;have:=h1 j u (by trivial);rw[h.1];exact this
      |succ i=>grind
  | [],_,_,_::_,h=>h.elim
  |_::_,_,_,[],h=>h.elim
theorem eR(inl:Inl E N){all:List Oper}{r:List PV}:∀(rest:List Oper) (id:Nat) (s:St0 E N) (ms:List (Nat×Nat)) (k:St0 E N→List (Nat×Nat)→Option (List PV)),Eb (O:=std E N) P cfg inl all true rest id s ms k=some r →
    ∃(tr:List (Rc E N)) (id':Nat),TrOK P cfg all rest id s tr∧k { stD (fun _=>true) 0 tr s with st:=id' } (ms++tr.map fun t=>(t.rd,t.wr.mask))=some r∧id≤id'∧∀(i:Nat) (o:Oper) (t:Rc E N),rest[i]?=some o→tr[i]?=some t→t.id+Bn P o≤id'
  | [],id,s,ms,k,h=>⟨[],id,trivial,by simpa[Eb,stD]using h,Nat.le_refl _,fun i o t ho=>by simp at ho⟩
  |o::rest,id,s,ms,k,h=>by
    have shift:∀(tr:List (Rc E N)) (i j:Nat) (s:St0 E N),stD (fun _=>true) i tr s=stD (fun _=>true) j tr s:=fun tr=>by
      induction tr with
      |nil=>intro i j s;rfl
      |cons t tr ih=>intro i j s;exact ih _ _ _
    have next:∀(wr:Wr (std E N)) (rd:Nat),OpGood P cfg all o s ⟨id,rd,wr⟩→Eb (O:=std E N) P cfg inl all true rest (id+Bn P o) (s.apply wr) (ms++[(rd,wr.mask)]) k=some r→∃(tr:List (Rc E N)) (id':Nat),TrOK P cfg all (o::rest) id s tr∧k { stD (fun _=>true) 0 tr s with st:=id' } (ms++tr.map fun t=>(t.rd,t.wr.mask))=some r∧id≤id'∧∀(i:Nat) (o':Oper) (t:Rc E N),(o::rest)[i]?=some o'→tr[i]?=some t→t.id+Bn P o'≤id':=fun wr rd hg hr=>by
      obtain⟨tr,id',h1,h2,h3,h4⟩:=eR inl rest _ _ _ _ hr;refine⟨⟨id,rd,wr⟩::tr,id',⟨rfl,hg,h1⟩,?_,by omega,fun i o' t ho ht=>?_⟩
      · simp only[stD]
        grind
      grind
    unfold Eb at h
    split at h
    · cases h
    · rename_i as wr rd hrun;obtain⟨has,h2⟩:=WK h;exact next wr rd (.inl ⟨as,hrun,has⟩) h2
    · rename_i g f fns args dm nx rd hrun;obtain⟨c,hc,h2⟩:=Option.bind_eq_some_iff.1 h
      split at h2
      · cases h2
      rename_i wr hn;refine next wr rd (.inr ⟨g,f,fns,args,dm,nx,c,hrun,?_,hn⟩) h2
      grind
    · cases h
    cases h
end
end Go.Px
end
