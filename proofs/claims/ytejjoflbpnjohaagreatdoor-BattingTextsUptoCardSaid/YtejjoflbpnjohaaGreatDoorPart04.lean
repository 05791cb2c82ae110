/- Part 4. -/
import Derived.Test.YtejjoflbpnjohaaGreatDoorPart03
import Derived.Lib.UnsafeStr
set_option linter.unusedVariables false
set_option linter.unusedSimpArgs false
section
namespace Go.Px
section
variable {E:Env} {N:Nat} {P:Program} {n0:Nz} {nt:Nat} {β:Nat→Option Nat} {σ:Nat→Option (Nat×Nat)} {s s':St0 E N} {a:Act} {w w':World}
theorem Sq {cs r cs':List (AC0 E N)} {off n:Nat} (h:Ct cs off r=some cs') (hn:n∈AF cs'):n∈AF cs∨n∈AF r:=by
 obtain ⟨rfl,_⟩:=E3 h;obtain ⟨c,hc,hm⟩:=BG.1 hn
 rcases List.mem_append.1 hc with hc | hc
 ·rcases List.mem_append.1 hc with hc | hc
  ·exact .inl (BG.2 ⟨c,List.mem_of_mem_take hc,hm⟩)
  ·exact .inr (BG.2 ⟨c,hc,hm⟩)
 ·exact .inl (BG.2 ⟨c,List.mem_of_mem_drop hc,hm⟩)
theorem mG (m : Mem P n0 β σ s w) {b : Nat} {e : BEnt (std E N)} {blk : Nat} {cells : Array Value} {el : TypeId} (he : s.getB b = some e) (hb : β b = some blk) (hheap : w.heap[blk]? = some (.cells cells el (0, 0)))
    {cs':List (AC0 E N)} {cells':Array Value} (hr:RelCs P n0 β σ s w cs' cells'.toList) (hcn:∀ n,Fresh a s n→n∉AF cs') (hbh:BH blk cells' el cs') {wr:Wr (std E N)} (ht0:wr.ts=[]) (hbs:wr.bs=[(b,some { cs:=cs',dirty:=true })]) (hhs:wr.hs=[]) :
    Mem P n0 β σ (s.apply wr) (w.setRow blk cells')∧Ext P (fun _=>False) β σ s w β σ (s.apply wr) (w.setRow blk cells')∧Tidy a (fun _=>False) s (s.apply wr):=by
  have gB:=fun n=>State.getB_apply1 s b (some { cs:=cs',dirty:=true }) wr hbs n
  have gH:=fun n=>State.getH_apply0 s wr hhs n
  have hin:InM β σ s blk:=.inl ⟨b,e,he,hb⟩;have hB:∀ n e',(s.apply wr).getB n=some e'→∃ e0,s.getB n=some e0:=fun n e' h=>by
    rw [gB] at h
    by_cases hn:n=b
    · exact ⟨e,by rw [hn];exact he⟩
    · rw [if_neg hn] at h;exact ⟨e',h⟩
  have oth:∀ k,k≠blk→(w.setRow blk cells').heap[k]?=w.heap[k]?:=fun k hk=>setRow_other w blk k _ hk
  have x:Ext P (fun _=>False) β σ s w β σ (s.apply wr) (w.setRow blk cells'):=by
    refine ⟨rfl,rfl,rfl,by simp,fun k hk hm=>oth k (fun h=>hm (h▸hin)),fun k hk=>.inl ?_,fun n e' h _=>⟨hB n e' h,rfl⟩,fun n h hh _=>by rw [gH] at hh;exact ⟨h,hh,rfl,rfl,fun _=>rfl⟩⟩
    rcases hk with ⟨n,e',h,hb'⟩ | ⟨i,h,cap,hh,hf,hs⟩
    · obtain ⟨e0,h0⟩:=hB n e' h;exact .inl ⟨n,e0,h0,hb'⟩
    · rw [gH] at hh;exact .inr ⟨i,h,cap,hh,hf,hs⟩
  refine ⟨⟨fun n e' h=>?_,fun i h hh=>?_,fun n n' e1 e2 k h1 h2=>?_,fun i i' h h' k c c' h1 h2=>?_,fun n e1 i h k c h1 h2 h3 h4=>?_⟩,x,⟨fun n hf _=>?_,fun n e' h hd=>?_,fun n e' h hd=>by rw [gH] at h;exact h⟩⟩
  · rw [gB] at h
    by_cases hn:n=b
    · rw [if_pos hn] at h;cases h;exact ⟨blk,cells',el,by rw [hn];exact hb,setRow_heap w blk cells _ _ _ hheap,x.relCs (fun _ _=>id) hr,hbh⟩
    · rw [if_neg hn] at h;obtain ⟨k,c1,el1,hk,hh,hr1,hbh1⟩:=m.B n e' h;exact ⟨k,c1,el1,hk,(oth k (fun e2=>hn (m.uB n b e' e blk h he (e2▸hk) hb))).trans hh,x.relCs (fun _ _=>id) hr1,hbh1⟩
  · rw [gH] at hh
    rcases m.H i h hh with ⟨t,ts,ht,hts,hrl,hm⟩ | hM
    case inr=>exact .inr (hM.view rfl rfl rfl (fun k cap hs=>oth k (fun e2=>m.uX b e i h blk cap he hh hb (e2▸hs))) (fun _ _ _ ho=>ho))
    refine .inl ⟨t,ts,ht,hts,hrl,?_⟩
    rcases hm with hm | ⟨k,cap,c1,el1,hs,hheap1,hel,hsz,hcap,hnw,v,hv,hrep⟩
    · exact .inl hm
    · exact .inr ⟨k,cap,c1,el1,hs,(oth k (fun e2=>m.uX b e i h blk cap he hh hb (e2▸hs))).trans hheap1,hel,hsz,hcap,hnw,v,hv,fun q j t' hq hj=>x.rep (hrep q j t' hq hj)⟩
  · obtain ⟨e3,h3⟩:=hB n e1 h1;obtain ⟨e4,h4⟩:=hB n' e2 h2;exact fun h5 h6=>m.uB n n' e3 e4 k h3 h4 h5 h6
  · rw [gH] at h1 h2;exact m.uH i i' h h' k c c' h1 h2
  · obtain ⟨e3,h5⟩:=hB n e1 h1;rw [gH] at h2;exact m.uX n e3 i h k c h5 h2 h3 h4
  · refine ⟨fun k tv hk=>?_,fun k e1 he1=>?_,fun k h hk=>?_⟩
    · rw [State.getT_apply0 s wr ht0] at hk;exact hf.t k tv hk
    · rw [gB] at he1
      by_cases hk:k=b
      · rw [if_pos hk] at he1;cases he1;exact ⟨by rw [hk];exact (hf.b b e he).1,hcn n hf⟩
      · rw [if_neg hk] at he1;exact hf.b k e1 he1
    · rw [gH] at hk;exact hf.h k h hk
  · rw [gB] at h
    by_cases hn:n=b
    · rw [if_pos hn] at h;cases h;cases hd
    · rw [if_neg hn] at h;exact h
def laid (cells:Array Value) (o:Nat) (us:List Value):Array Value:=(cells.toList.take o++us++cells.toList.drop (o+us.length)).toArray
theorem pR {cells:Array Value} {o:Nat} {us:List Value} (h:o+us.length≤cells.size):(laid cells o us).size=cells.size:=by
 simp only [laid,List.size_toArray,List.length_append,List.length_take,List.length_drop,Array.length_toList];omega
theorem qw {cells:Array Value} {o:Nat} {us:List Value} (h:o+us.length≤cells.size) (j:Nat):(laid cells o us)[j]?=if o≤j∧j<o+us.length then us[j - o]? else cells[j]?:=by
 have hl:(cells.toList.take o).length=o:=by rw [List.length_take];exact Nat.min_eq_left (by simp;omega)
 simp only [laid,List.getElem?_toArray,List.append_assoc]
 by_cases h1:j<o
 ·rw [List.getElem?_append_left (by rw [hl];exact h1),List.getElem?_take,if_pos h1,if_neg (by omega),Array.getElem?_toList]
 ·rw [List.getElem?_append_right (by rw [hl];omega),hl]
  by_cases h2:j<o+us.length
  ·rw [List.getElem?_append_left (by omega),if_pos ⟨by omega,h2⟩]
  ·rw [List.getElem?_append_right (by omega),if_neg (by omega),List.getElem?_drop,Array.getElem?_toList];congr 1;omega
theorem jT {T:TypeId} (h:0<P.cellsOf T):∃ ti,P.info? T=some ti∧ti.size=P.cellsOf T:=by
 unfold Program.cellsOf at h ⊢;cases hi:P.info? T with
 | none=>rw [hi] at h;simp at h
 | some ti=>exact ⟨ti,rfl,by simp⟩
theorem N2 {T : TypeId} {blk o : Nat} {cells : Array Value} {el : TypeId} {x : Value} {us : List Value} (hx : x.cells.toList = us) (hlen : us.length = P.cellsOf T) (hpos : 0 < us.length)
    (hheap:w.heap[blk]?=some (.cells cells el (0,0))) (hfit:o+us.length≤cells.size) (hone:∀ v∈us,v.oneCell'=true) :
    (Instr.storeAt T (.pointer (some ⟨blk,o,none⟩)) x).run P w=.ok () (w.setRow blk (laid cells o us)):=by
  obtain ⟨ti,hi,hsz⟩:=jT (P:=P) (T:=T) (by omega);have hst:=run_storeCells_at (P:=P) blk o el us 0 cells w hheap (by simpa using hfit) hone;have hcs:x.cells.size=ti.size:=by rw [hsz,← hlen,← hx];simp
  simp only [Nat.add_zero] at hst;simp [Instr.storeAt,Instr.sureAddr,storeVar,sizeOf,typeInfo,hi,hcs,hx,hst,laid,List.append_assoc]<;>simp [List.append_assoc] at hst<;>exact hst
theorem uv {α:Type} {l:List α} {o n m:Nat} (h:o+m≤l.length) (hn:n=m):l.take o++(l.drop o).take n++l.drop (o+((l.drop o).take n).length)=l:=by
 have:((l.drop o).take n).length=n:=by rw [List.length_take,List.length_drop];omega
 rw [this,List.append_assoc,← List.drop_drop,List.take_append_drop,List.take_append_drop]
theorem ZW {off sz inner : Nat} {i : Int} {v : List (AC0 E N)} {us : List Value} (hv : RelCs P n0 β σ s w v us) (hpos : 0 < v.length) (h0 : 0 ≤ i) : ∀ {k : Nat} {cs cs' : List (AC0 E N)} {vs : List Value}, gj (O := std E N) off sz inner i v k cs = some cs' → RelCs P n0 β σ s w cs vs →
    RelCs P n0 β σ s w cs' (if i<(k:Int) then vs.take (off+i.toNat * sz+inner)++us++vs.drop (off+i.toNat * sz+inner+us.length) else vs)∧(∀ n,n∈AF cs'→n∈AF cs)∧(i<(k:Int)→off+i.toNat * sz+inner+us.length≤vs.length)
  | 0,cs,cs',vs,h,hc=>by
    simp only [gj] at h;cases h;have:¬ i<((0:Nat):Int):=by omega
    rw [if_neg this];exact ⟨hc,fun _ h=>h,fun h=>absurd h this⟩
  | k+1,cs,cs',vs,h,hc=>by
    simp only [gj] at h
    split at h
    · cases h
    · rename_i old hold
      split at h
      · cases h
      · rename_i new hnew
        split at h
        · cases h
        · rename_i cs1 hrep;obtain ⟨ho1,ho2⟩:=C5 hold;have hlv:=RelCs.length hv;have hlc:=RelCs.length hc;have hnames:∀ n,n∈AF cs1→n∈AF cs:=fun n hn=>by
            rcases Sq hrep hn with h | h
            · exact h
            · rw [K5 hnew] at h;simp at h
          have hfit:off+k * sz+inner+us.length≤vs.length:=by
            have:=congrArg List.length ho1;rw [ho2,List.length_take,List.length_drop] at this;omega
          by_cases hik:i=(k:Int)
          · have hb:(i==(k:Int))=true:=by simp [hik]
            have hi2:i.toNat=k:=by omega
            have h1:=II (vs:=us) hnew (fun _=>hv) (fun h=>by rw [hb] at h;cases h);have h2:=K2 hrep hc h1.1;obtain ⟨r1,r2,r3⟩:=ZW hv hpos h0 h h2;have hlt:¬ i<(k:Int):=by omega
            rw [if_neg hlt] at r1;rw [if_pos (by omega),hi2];exact ⟨r1,fun n hn=>hnames n (r2 n hn),fun _=>hfit⟩
          · have hb:(i==(k:Int))=false:=by simp [hik]
            have h1:=II (vs:=(vs.drop (off+k * sz+inner)).take v.length) hnew (fun h=>by rw [hb] at h;cases h) (fun _=>by rw [ho1];exact RelCs.take _ (RelCs.drop _ hc));have h2:=K2 hrep hc h1.1;rw [uv hfit hlv] at h2;obtain ⟨r1,r2,r3⟩:=ZW hv hpos h0 h h2
            by_cases hlt:i<(k:Int)
            · rw [if_pos hlt] at r1;rw [if_pos (by omega)];exact ⟨r1,fun n hn=>hnames n (r2 n hn),fun _=>r3 hlt⟩
            · rw [if_neg hlt] at r1;rw [if_neg (by omega)];exact ⟨r1,fun n hn=>hnames n (r2 n hn),fun h=>by omega⟩
theorem Vl:∀ (ps:List PV) (r:List PV) (off:Nat),(BE r off ps).length=r.length
 | [],r,off=>rfl
 | p::ps,r,off=>by simp [BE,Vl ps]
theorem bg:∀ (ps:List PV) (r:List PV) (off j:Nat),off+ps.length≤r.length→(BE r off ps)[j]?=if off≤j∧j<off+ps.length then ps[j - off]? else r[j]?
 | [],r,off,j,_=>by
  have:¬ (off≤j∧j<off+([]:List PV).length):=by simp
  rw [if_neg this];rfl
 | p::ps,r,off,j,h=>by
  simp only [List.length_cons] at h;simp only [BE];rw [bg ps (r.set off p) (off+1) j (by simp;omega)]
  by_cases h1:j=off
  ·subst h1;rw [if_neg (by omega),if_pos ⟨Nat.le_refl _,by simp⟩,Nat.sub_self];simp only [List.getElem?_cons_zero];rw [List.getElem?_set_self (by omega)]
  ·rw [List.getElem?_set_ne (fun e=>h1 e.symm)]
   by_cases h2:off≤j∧j<off+(ps.length+1)
   ·rw [if_pos (by omega),if_pos (by simpa using h2)];obtain ⟨k,hk⟩:∃ k,j - off=k+1:=⟨j - off - 1,by omega⟩;rw [hk,List.getElem?_cons_succ];congr 1;omega
   ·rw [if_neg (by omega),if_neg (by simpa using h2)]
theorem DY {α:Type} {k:Nat}:∀ {ws:List (Nat×Option α)} {l:List (Nat×α)},k∉ws.map (·.1)→AH (BA l ws) k=AH l k
 | [],l,_=>rfl
 | (n,v)::ws,l,h=>by
  simp only [List.map_cons,List.mem_cons,not_or] at h;simp only [BA];rw [DY h.2,BB,if_neg h.1]
theorem qK {l:Rows} {i i' j:Nat} {r:List PV} (hi:i<l.length):AB (l.set i r) i' j=if i'=i then AA r j else AB l i' j:=by
 unfold AB Aa
 by_cases h:i'=i
 ·subst h;simp [List.getD,List.getElem?_set_self hi]
 ·rw [if_neg h];simp only [List.getD];rw [List.getElem?_set_ne (fun e=>h e.symm)]
theorem nZ {ps r:List PV} {off j:Nat} (h:off+ps.length≤r.length):AA (BE r off ps) j=if off≤j∧j<off+ps.length then AA ps (j - off) else AA r j:=by
 unfold AA;simp only [List.getD];rw [bg ps r off j h]
 split<;>rfl
theorem nE (hn0 : n0.n ≤ w.heap.size) (m : Mem P n0 β σ s w) {T : TypeId} {p : AC0 E N} {pv x : Value} {v : List (AC0 E N)} {wr : Wr (std E N)} {k k' : Nat} (hp : RelC P n0 β σ s w p pv) (hv : RelCs P n0 β σ s w v x.cells.toList)
    (hvn:∀ n,Fresh a s n→n∉AF v) (h:RM.run s (mO P T v p) k=.ok (wr,k')) :
    ∃ w',(Instr.storeAt T pv x).run P w=.ok () w'∧Mem P n0 β σ (s.apply wr) w'∧Ext P (fun _=>False) β σ s w β σ (s.apply wr) w'∧Tidy a (fun _=>False) s (s.apply wr)∧wr.ts=[]:=by
  have hlv:=RelCs.length hv;have hone:=RelCs.one hv;cases p with
  | ptr b off =>
    obtain ⟨k1,h⟩:=zzg h;cases he:s.getB b with
    | none=>rw [he] at h;exact (zzb h).elim
    | some e =>
      rw [he] at h;obtain ⟨_,k2,h1,h2⟩:=zza h;obtain ⟨cs,k3,h3,h4⟩:=zza h2;obtain ⟨_,k4,hna,h4⟩:=zza h4;have hna:=zzd hna;cases zzc h4;have hg:=zzd h1;simp only [zzj] at hg;have hlen:=AD.1 hg.1;have hpos:0<v.length:=Nat.le_of_ble_eq_true hg.2;have hrep:=zzh h3;obtain ⟨blk,rfl,hbk⟩:=hp;have hb:=hbk e he;obtain ⟨blk',cells,el,hb',hheap,hrc,_⟩:=m.B b e he;rw [hb] at hb';cases hb';have hfit:off+x.cells.toList.length≤cells.size:=by
        have h1:=RelCs.length hrc
        rcases (E3 hrep).2 with h | h
        · rw [h] at hpos;simp at hpos
        · rw [Array.length_toList] at h1;omega
      have hr:=K2 hrep hrc hv;obtain ⟨q1,q2,q3⟩:=mG m he hb hheap (cs':=cs) (cells':=laid cells off x.cells.toList) (by simpa [laid] using hr)
        (fun n hn hm=>(Sq hrep hm).elim (hn.b b e he).2 (hvn n hn)) (BH.of_noAny hna) (wr:={ bs:=[(b,some { cs,dirty:=true })] }) rfl rfl rfl
      exact ⟨_,N2 rfl (by omega) (by omega) hheap hfit hone,q1,q2,q3,rfl⟩
  | aptr b off n sz i inner =>
    obtain ⟨k1,h⟩:=zzg h;cases he:s.getB b with
    | none=>rw [he] at h;exact (zzb h).elim
    | some e =>
      rw [he] at h;obtain ⟨_,k2,h1,h2⟩:=zza h;obtain ⟨cs,k3,h3,h4⟩:=zza h2;obtain ⟨_,k4,hna,h4⟩:=zza h4;have hna:=zzd hna;cases zzc h4;have hg:=zzd h1;simp only [zzj] at hg;have hlen:=AD.1 hg.1;have hpos:0<v.length:=Nat.le_of_ble_eq_true hg.2;have hrep:=zzh h3;obtain ⟨h0,hi,blk,rfl,hbk⟩:=hp;have hb:=hbk e he;obtain ⟨blk',cells,el,hb',hheap,hrc,_⟩:=m.B b e he;rw [hb] at hb';cases hb';obtain ⟨r1,r2,r3⟩:=ZW hv hpos h0 hrep hrc;rw [if_pos hi] at r1;have hfit:=r3 hi;rw [Array.length_toList] at hfit;obtain ⟨q1,q2,q3⟩:=mG m he hb hheap (cs':=cs) (cells':=laid cells _ x.cells.toList) (by simpa [laid] using r1)
        (fun n hn hm=>(hn.b b e he).2 (r2 n hm)) (BH.of_noAny hna) (wr:={ bs:=[(b,some { cs,dirty:=true })] }) rfl rfl rfl
      exact ⟨_,N2 rfl (by omega) (by omega) hheap hfit hone,q1,q2,q3,rfl⟩
  | eptr id i off =>
    obtain ⟨k1,h⟩:=zzf h;cases hh:s.getH id with
    | none=>rw [hh] at h;exact (zzb h).elim
    | some en =>
      rw [hh] at h;obtain ⟨_,k2,h1,h2⟩:=zza h;have hfz:en.frozen=false:=by simpa using zzd h1
      split at h2
      case h_2=>exact (zzb h2).elim
      rename_i tsT hfits;obtain ⟨_,k3,h3,h4⟩:=zza h2;obtain ⟨⟨ls,fr,nw⟩,k4,h5,h6⟩:=zza h4;obtain ⟨_,k5,h7,h8⟩:=zza h6;cases zzc h8;have hg3:=zzd h3;simp only [zzj] at hg3;have hl1:=AD.1 hg3.1;have hl2:=AD.1 hg3.2;have hg7:=zzd h7;simp only [zzj,Bool.not_eq_true'] at hg7;obtain ⟨hkind,hnot⟩:=hg7;obtain ⟨le,hle,hT,htake⟩:=Ut hfits;obtain ⟨i,rfl⟩:∃ j:Int,j=i:=⟨i,rfl⟩;obtain ⟨h0,blk,o,hpv,hk⟩:=hp;subst hpv;obtain ⟨hi,ts,cap,hts,hs,hcp,ho⟩:=hk en hh;rw [hle] at hts;cases hts;subst ho;obtain ⟨hTsz,hTpos⟩:=Cm hT
      rcases m.H id en hh with ⟨t,ts2,ht,hts2,hrl,hm⟩ | hM
      case inr=>exact (hM.noCap hs hcp.1).elim
      rw [hle] at hts2;cases hts2
      rcases hm with ⟨hn,_⟩ | ⟨blk',cap',cells,el,hs',hheap,hel,hsz,hcap,hnw,u,hu,hrep⟩
      · rw [hn] at hs;cases hs
      · rw [hs] at hs';cases hs';have hoff:off+tsT.length≤le.length:=by
          have:=congrArg List.length htake;rw [List.length_take,List.length_drop] at this;omega
        have hi2:(i:Int)<((en.l.length:Nat):Int):=hi;have h02:(0:Int)≤i:=h0;have hiN:i.toNat<en.l.length:=by omega
        have hfit0:i.toNat * le.length+le.length≤cap * le.length:=by
          have:(i.toNat+1) * le.length≤cap * le.length:=Nat.mul_le_mul_right _ (by omega)
          rwa [Nat.add_mul,Nat.one_mul] at this
        have hus:x.cells.toList.length=tsT.length:=by omega
        have hfit:i.toNat * le.length+off+x.cells.toList.length≤cells.size:=by omega
        obtain ⟨f1,f2,f3,f4⟩:=Uh m hv h5
        let hnew:HEnt (std E N):={ en with l:=en.l.set i.toNat (BE (Aa en.l i.toNat) off (ls.map Leaf.pv)),nw:=en.nw&&nw,dirty:=true }
        let wr:Wr (std E N):={ hs:=fr++[(id,some hnew)] }
        let s1:=s.apply ({ hs:=fr }:Wr (std E N))
        let w2:=w.setRow blk (laid cells (i.toNat * le.length+off) x.cells.toList)
        have gB:=fun n=>State.getB_apply0 s wr rfl n
        have gs:∀ n,(s.apply wr).getH n=if n=id then some hnew else s1.getH n:=fun n=>by
          show AH (BA s.hp (fr++[(id,some hnew)])) n=_;rw [EA];simp only [BA];exact BB _ _ _ _
        have hget:(s.apply wr).getH id=some hnew:=by rw [gs,if_pos rfl]
        have fget:∀ n h',n≠id→(s.apply wr).getH n=some h'→∃ h0,s.getH n=some h0∧(h'=h0∨h'={ h0 with frozen:=true,dirty:=true }):=fun n h' hn he=>by
          rw [gs,if_neg hn] at he;exact f1.pre.get rfl n h' he
        have hin:InM β σ s blk:=.inr ⟨id,en,cap,hh,hfz,hs⟩;have oth:∀ q,q≠blk→w2.heap[q]?=w.heap[q]?:=fun q hq=>setRow_other w blk q _ hq
        have x0:Ext P (fun _=>False) β σ s w β σ (s.apply wr) w2:=by
          refine ⟨rfl,rfl,rfl,by simp [w2],fun q _ hm=>oth q (fun e=>hm (e▸hin)),fun q hq=>.inl ?_,fun n e he _=>?_,fun n h' he _=>?_⟩
          · rcases hq with ⟨n,e,he,hb⟩ | ⟨n,e,cap',he,hfz',hb⟩
            · rw [gB] at he;exact .inl ⟨n,e,he,hb⟩
            · by_cases hid:n=id
              · rw [hid] at hb;exact .inr ⟨id,en,cap',hh,hfz,hb⟩
              · obtain ⟨h0,hh0,h1⟩:=fget n e hid he
                rcases h1 with rfl | rfl
                · exact .inr ⟨n,e,cap',hh0,hfz',hb⟩
                · cases hfz'
          · rw [gB] at he;exact ⟨⟨e,he⟩,rfl⟩
          · by_cases hid:n=id
            · subst hid;rw [hget] at he;cases he;exact ⟨en,hh,rfl,rfl,by simp [hnew]⟩
            · obtain ⟨h0,hh0,h1⟩:=fget n h' hid he;refine ⟨h0,hh0,rfl,?_⟩
              rcases h1 with rfl | rfl<;>exact ⟨rfl,fun _=>rfl⟩
        have hs1:s1.getH id=some en:=by
          show AH (BA s.hp fr) id=some en;rw [DY (fun hm=>by rw [CR.2 hm] at hnot;cases hnot)];exact hh
        have x1:Ext P (fun _=>False) β σ s1 w β σ (s.apply wr) w2:=by
          have hin1:InM β σ s1 blk:=.inr ⟨id,en,cap,hs1,hfz,hs⟩;refine ⟨rfl,rfl,rfl,by simp [w2],fun q _ hm=>oth q (fun e=>hm (e▸hin1)),fun q hq=>.inl ?_,fun n e he _=>?_,fun n h' he _=>?_⟩
          · rcases hq with ⟨n,e,he,hb⟩ | ⟨n,e,cap',he,hfz',hb⟩
            · rw [gB] at he;exact .inl ⟨n,e,by show (s.apply _).getB n=_;rw [State.getB_apply0 s _ rfl];exact he,hb⟩
            · by_cases hid:n=id
              · rw [hid] at hb;exact .inr ⟨id,en,cap',hs1,hfz,hb⟩
              · rw [gs,if_neg hid] at he;exact .inr ⟨n,e,cap',he,hfz',hb⟩
          · rw [gB] at he;exact ⟨⟨e,by show (s.apply _).getB n=_;rw [State.getB_apply0 s _ rfl];exact he⟩,rfl⟩
          · by_cases hid:n=id
            · subst hid;rw [hget] at he;cases he;exact ⟨en,hs1,rfl,rfl,fun _=>by simp [hnew]⟩
            · rw [gs,if_neg hid] at he;exact ⟨h',he,rfl,rfl,fun _=>rfl⟩
        have hlr:ls.length=tsT.length:=by omega
        have hrow:Aa en.l i.toNat∈en.l:=by
          unfold Aa;rw [List.getD,zzn hiN];exact List.getElem_mem hiN
        have hrowl:(Aa en.l i.toNat).length=le.length:=hrl _ hrow;refine ⟨w2,N2 rfl (by omega) (by omega) hheap hfit hone,YC (id:=id) m x0 (fun n e he=>?_) (fun n e q he hb=>?_) (fun n h' hn he=>?_) (fun n h' q cap' hn he hs=>?_) (fun h' he=>?_) (fun q cap' hq=>?_),x0,
          ⟨fun n hf _=>?_,fun n e he hd=>?_,fun n e he hd=>?_⟩,rfl⟩
        · rw [gB] at he;exact ⟨e,he,rfl,fun _ _ h=>h⟩
        · rw [gB] at he;exact oth q (fun e2=>m.uX n e id en blk cap he hh (e2▸hb) hs)
        · obtain ⟨h0,hh0,h1⟩:=fget n h' hn he;refine ⟨h0,hh0,?_⟩
          rcases h1 with rfl | rfl
          · exact ⟨rfl,rfl,rfl,fun h=>h,rfl⟩
          · exact ⟨rfl,rfl,rfl,(fun h=>by cases h),rfl⟩
        · obtain ⟨h0,hh0,_⟩:=fget n h' hn he;exact oth q (fun e2=>hn (m.uH n id h0 en blk cap' cap hh0 hh (e2▸hs) (by assumption)))
        · rw [hget] at he;cases he;refine .inl ⟨t,le,ht,hle,fun r hr=>?_,.inr ⟨blk,cap,laid cells (i.toNat * le.length+off) x.cells.toList,el,hs,setRow_heap w blk cells _ _ _ hheap,hel,by rw [pR hfit];exact hsz,by simp [hnew];exact hcap,
            hnw.mono (fun h=>by simp [hnew] at h;exact h.1),fun i' j=>if i'=i.toNat∧off≤j∧j<off+tsT.length then x.cells.toList.getD (j - off) undef else u i' j,fun i' j hi' hj=>?_,fun i' j t' hi' hj=>?_⟩⟩
          · rcases List.mem_or_eq_of_mem_set hr with h | h
            · exact hrl r h
            · rw [h,Vl];exact hrl _ hrow
          · have hi3:i'<en.l.length:=by simpa [hnew] using hi'
            rw [qw hfit];show _=some (if i'=i.toNat∧off≤j∧j<off+tsT.length then x.cells.toList.getD (j - off) undef else u i' j)
            by_cases hc:i'=i.toNat∧off≤j∧j<off+tsT.length
            · obtain ⟨rfl,hc1,hc2⟩:=hc;rw [if_pos (by omega)];simp only [hc1,hc2,and_self,if_true];have e1:i.toNat * le.length+j - (i.toNat * le.length+off)=j - off:=by omega
              rw [e1,List.getD,zzn (by omega)];rfl
            · rw [if_neg hc,if_neg (fun h=>hc ?_)]
              · exact hu i' j hi3 hj
              · rcases Nat.lt_trichotomy i' i.toNat with h1 | h1 | h1
                · have:(i'+1) * le.length≤i.toNat * le.length:=Nat.mul_le_mul_right _ h1;rw [Nat.add_mul,Nat.one_mul] at this;omega
                · subst h1;exact ⟨rfl,by omega,by omega⟩
                · have:(i.toNat+1) * le.length≤i' * le.length:=Nat.mul_le_mul_right _ h1;rw [Nat.add_mul,Nat.one_mul] at this;omega
          · have hi3:i'<en.l.length:=by simpa [hnew] using hi'
            have hj3:j<le.length:=(List.getElem?_eq_some_iff.1 hj).1;show Rep P w2 (StB n0 β σ (s.apply wr) hnew.nw) t' (if i'=i.toNat∧off≤j∧j<off+tsT.length then x.cells.toList.getD (j - off) undef else u i' j) _;rw [show hnew.l=en.l.set i.toNat (BE (Aa en.l i.toNat) off (ls.map Leaf.pv)) from rfl,qK hiN];have hold:∀ i',i'<en.l.length→Rep P w2 (StB n0 β σ (s.apply wr) hnew.nw) t' (u i' j) (AB en.l i' j):=fun i' hi' =>
              (x0.rep (hrep i' j t' hi' hj)).st (fun b hb=>⟨hb.1,hb.2.mono (fun h=>by simp [hnew] at h;exact h.1)⟩)
            by_cases hii:i'=i.toNat
            · subst hii;rw [if_pos rfl,nZ (by rw [List.length_map,hlr,hrowl];exact hoff),List.length_map,hlr]
              by_cases hc:off≤j∧j<off+tsT.length
              · rw [if_pos ⟨rfl,hc⟩,if_pos hc];have hq:tsT[j - off]?=some t':=by
                  rw [← htake,List.getElem?_take,if_pos (by omega),List.getElem?_drop,show off+(j - off)=j by omega];exact hj
                refine x1.rep (f4 tsT s1 hkind (f1.sub rfl rfl) (f1.frz rfl) hnew.nw (fun h=>by simp [hnew] at h;exact h.2) (j - off) t' _ hq ?_);rw [List.getD,zzn (by omega)];rfl
              · rw [if_neg (fun h=>hc h.2),if_neg hc];exact hold _ hi3
            · rw [if_neg hii,if_neg (fun h=>hii h.1)];exact hold _ hi3
        · rw [hs] at hq;cases hq;refine ⟨fun n e he hb=>?_,fun n h' cap'' hn he hs2=>?_⟩
          · rw [gB] at he;exact m.uX n e id en blk cap he hh hb hs
          · obtain ⟨h0,hh0,_⟩:=fget n h' hn he;exact hn (m.uH n id h0 en blk cap'' cap hh0 hh hs2 hs)
        · refine ⟨fun q tv hq=>?_,fun q e he=>?_,fun q e he=>?_⟩
          · rw [State.getT_apply0 s wr rfl] at hq;exact hf.t q tv hq
          · rw [gB] at he;exact hf.b q e he
          · by_cases hq:q=id
            · rw [hq];exact hf.h id en hh
            · obtain ⟨h0,hh0,_⟩:=fget q e hq he;exact hf.h q h0 hh0
        · rw [gB] at he;exact he
        · by_cases hq:n=id
          · rw [hq,hget] at he;cases he;cases hd
          · obtain ⟨h0,hh0,h1⟩:=fget n e hq he
            rcases h1 with rfl | rfl
            · exact hh0
            · cases hd
  | _=>exact (zzb h).elim
end
def RelArgs {E:Env} {N:Nat} (P:Program) (n0:Nz) (β:Nat→Option Nat) (σ:Nat→Option (Nat×Nat)) (s:St0 E N) (w:World):List (AV (std E N))→List Value→Prop
 | [],[]=>True
 | x::xs,v::vs=>RelAV P n0 β σ s w x v∧RelArgs P n0 β σ s w xs vs
 | _,_=>False
def noB:Nat→Option Nat:=fun _=>none
def AM {E:Env} {N:Nat} (hs:List (Nat×HEnt (std E N))):St0 E N:=⟨.e,[],hs,0⟩
def Ret {E:Env} {N:Nat} (P:Program) (ci:CI) (n0:Nz) (σ:Nat→Option (Nat×Nat)) (s0:St0 E N) (w:World) (fn:Func) (rs:List PV):Ending→World→Prop
  | .returned v, w' => w'.os = w.os ∧ w'.tape = w.tape ∧ w'.output = w.output ∧ w.heap.size ≤ w'.heap.size ∧ (∀ b, b < w.heap.size → ¬ InM noB σ s0 b → w'.heap[b]? = w.heap[b]?) ∧
      ∀ q,∃ (σ':Nat→Option (Nat×Nat)) (vs:List (Val (std E N))) (hs:List (Nat×HEnt (std E N))),BU (O:=std E N) P ci.ow ci.nw rs 0 q fn.resultTypes.toList=some (vs,hs) ∧
        Mem P n0 noB σ' (AM hs) w'∧RelAV P n0 noB σ' (AM hs) w' (Jg vs) v∧∀ b,InM noB σ' (AM hs) b→InM noB σ s0 b∨w.heap.size≤b
  | _,_=>False
def Iz (P:Program) (E:Env) (N:Nat) (ci:CI):Prop :=
 ∀ fn,P.funcs[ci.f]?=some fn→∀ (ls rs:List PV),E ci.f ci.fns ls=some rs→∀ (vs:List (AV (std E N))) (hs:List (Nat×HEnt (std E N))),
  A8 (O:=std E N) P ci.gives 1 fn.params.toList ci.fns (ls.map PV.leaf)=some (vs,hs)→∀ (n0:Nz) (σ:Nat→Option (Nat×Nat)) (w:World) (args:List Value),n0.n=w.heap.size →
  Mem P n0 noB σ (AM hs) w→RelArgs P n0 noB σ (AM hs) w vs args→(ct ci.gives=true→∀ q,σ q=none)→Kept P noB σ (AM hs) w→Calls P ci.f args.toArray w (Ret (E:=E) (N:=N) P ci n0 σ (AM hs) w fn rs)
section
variable {E:Env} {N:Nat} {P:Program} {n0 n0':Nz} {nt:Nat} {β β':Nat→Option Nat} {σ σ':Nat→Option (Nat×Nat)} {s s':St0 E N} {a:Act} {w w':World}
theorem RelH.view {id q : Nat} {h0 h1 : HEnt (std E N)} (h : RelH P n0 β σ s w id h0) (he : h1.e = h0.e) (hl : h1.l = h0.l) (hs : σ' q = σ id)
    (ho:∀ blk cap,σ id=some (blk,cap)→Old n0 h0.nw blk→Old n0' h1.nw blk) (hst:∀ b,StB n0 β σ s h0.nw b→StB n0' β' σ' s' h1.nw b):RelH P n0' β' σ' s' w q h1:=by
  rcases h with ⟨t,ts,ht,hts,hrl,hm⟩ | hM
  case inr=>exact .inr (hM.view he hl hs (fun _ _ _=>rfl) ho)
  refine .inl ⟨t,ts,by rw [he];exact ht,by rw [he];exact hts,by rw [hl];exact hrl,?_⟩
  rcases hm with ⟨h1,h2⟩ | ⟨blk,cap,cells,el,ha,hheap,hel,hc,hd,hnw,v,hv,hrep⟩
  · exact .inl ⟨by rw [hs];exact h1,by rw [hl];exact h2⟩
  · refine .inr ⟨blk,cap,cells,el,by rw [hs];exact ha,hheap,by rw [he];exact hel,hc,by rw [hl];exact hd,ho blk cap ha hnw,v,by rw [hl];exact hv,fun i j t' hi hj=>?_⟩;rw [hl] at hi ⊢;exact (hrep i j t' hi hj).st hst
def oA (P:Program) (s:St0 E N) (h':HEnt (std E N)):Option Nat→Prop
 | none=>h'.l=[]∧∃ t ts,AJ P t=.sl h'.e∧AO P h'.e=some ts
 | some id=>∃ h,s.getH id=some h∧h'.e=h.e∧h'.l=h.l∧h.frozen=false∧(h'.nw=true→h.nw=true)
def Ents (P:Program) (s:St0 E N):Nat→List (Option Nat)→List (Nat×HEnt (std E N))→Prop
 | _,[],[]=>True
 | q,o::os,(k,h')::r=>k=q∧h'.frozen=false∧oA P s h' o∧Ents P s (q+1) os r
 | _,_,_=>False
def Wired (σ σc:Nat→Option (Nat×Nat)) (s0:St0 E N):Nat→List (Option Nat)→List (Nat×HEnt (std E N))→Prop
 | q,o::os,(_,h')::r=>σc q=o.bind σ∧s0.getH q=some h'∧Wired σ σc s0 (q+1) os r
 | _,_,_=>True
theorem Ents.len:∀ {q:Nat} {os:List (Option Nat)} {r:List (Nat×HEnt (std E N))},Ents P s q os r→os.length=r.length
 | _,[],[],_=>rfl
 | _,_::_,(_,_)::_,h=>by simp [Ents.len h.2.2.2]
 | _,[],_::_,h=>h.elim
 | _,_::_,[],h=>h.elim
theorem Ents.append:∀ {q:Nat} {os os':List (Option Nat)} {r r':List (Nat×HEnt (std E N))},Ents P s q os r→Ents P s (q+r.length) os' r'→Ents P s q (os++os') (r++r')
 | _,[],_,[],_,_,h=>by simpa using h
 | q,o::os,_,(k,h')::r,_,h,h2=>⟨h.1,h.2.1,h.2.2.1,Ents.append h.2.2.2 (by simpa [Nat.add_assoc,Nat.add_comm 1] using h2)⟩
 | _,[],_,_::_,_,h,_=>h.elim
 | _,_::_,_,[],_,h,_=>h.elim
theorem Wired.left {σc:Nat→Option (Nat×Nat)} {s0:St0 E N}:∀ {q:Nat} {os os':List (Option Nat)} {r r':List (Nat×HEnt (std E N))},os.length=r.length→Wired σ σc s0 q (os++os') (r++r')→Wired σ σc s0 q os r
 | _,[],_,[],_,_,_=>trivial
 | q,o::os,_,(k,h')::r,_,hl,h=>⟨h.1,h.2.1,Wired.left (by simpa using hl) h.2.2⟩
 | _,[],_,_::_,_,hl,_=>by simp at hl
 | _,_::_,_,[],_,hl,_=>by simp at hl
theorem Wired.right {σc:Nat→Option (Nat×Nat)} {s0:St0 E N}:∀ {q:Nat} {os os':List (Option Nat)} {r r':List (Nat×HEnt (std E N))},os.length=r.length→Wired σ σc s0 q (os++os') (r++r')→Wired σ σc s0 (q+r.length) os' r'
 | _,[],_,[],_,_,h=>by simpa using h
 | q,o::os,_,(k,h')::r,_,hl,h=>by
  have:=Wired.right (by simpa using hl) h.2.2;simpa [Nat.add_assoc,Nat.add_comm 1] using this
 | _,[],_,_::_,_,hl,_=>by simp at hl
 | _,_::_,_,[],_,hl,_=>by simp at hl
theorem fA {σc : Nat → Option (Nat × Nat)} {s0 : St0 E N} {q id : Nat} {e : TypeId} {v : Value} {h h' : HEnt (std E N)} (hc : RelC P n0 β σ s w (.own e id) v) (hh : s.getH id = some h) (he : h'.e = h.e) (hl : h'.l = h.l)
    (hs:σc q=σ id) (hg:s0.getH q=some h'):RelC P n0' β' σc s0 w' (.own e q) v:=by
  obtain ⟨h1,h2⟩:=hc;obtain ⟨e1,o1⟩:=h2 h hh;refine ⟨h1,fun h3 hh3=>?_⟩;rw [hg] at hh3;cases hh3;refine ⟨he.trans e1,?_⟩;unfold jZ at o1 ⊢;rw [hs,hl];exact o1
theorem Lx (m : Mem P n0 β σ s w) : ∀ {ts : List TypeId} {cs : List (AC0 E N)} {vals : List Value} {used u : List Nat} {ls : List AR} {k k' : Nat}, RelCs P n0 β σ s w cs vals → AX P ts cs = true →
    RM.run s (Tn (O:=std E N) used cs) k=.ok ((ls,u),k')→∀ (q:Nat) (rest:List AR),∃ (cs':List (AC0 E N)) (nh:List (Nat×HEnt (std E N))) (ids:List (Option Nat)),
      Al (O:=std E N) P true q ts (ls++rest)=some (cs',nh,rest)∧Ents P s q ids nh∧(∀ n∈u,n∈used∨some n∈ids)∧(∀ n∈used,n∈u)∧(∀ n,some n∈ids→n∈u∧n∉used)∧(ids.filterMap id).Nodup∧(∀ p∈nh,p.2.nw=false) ∧
      ∀ (n0c:Nz) (σc:Nat→Option (Nat×Nat)) (s0:St0 E N),Wired σ σc s0 q ids nh→RelCs P n0c noB σc s0 w cs' vals
  | [],[],[],used,u,ls,k,k',_,_,h=>by
    cases zzc h;intro q rest;exact ⟨[],[],[],rfl,trivial,fun n hn=>.inl hn,fun n hn=>hn,fun n hn=>by simp at hn,List.nodup_nil,fun p hp=>by simp at hp,fun _ _ _ _=>trivial⟩
  | t::ts,c::cs,v::vals,used,u,ls,k,k',hc,hk,h=>by
    simp only [AX] at hk
    split at hk
    case h_2=>cases hk
    rename_i hk1;intro q rest;cases c with
    | int kk i =>
      obtain ⟨⟨l,fr,nw⟩,k1,h1,h2⟩:=zza h;obtain ⟨⟨ls2,u2⟩,k2,h3,h4⟩:=zza h2;cases zzc h1;cases zzc h4;obtain ⟨cs',nh,ids,a1,a2,a3,a4,a5,a6,a8,a7⟩:=Lx m hc.2 hk h3 q rest;cases hl:AJ P t<;>rw [hl] at hk1<;>simp [BD] at hk1;have hkk:=GJ.1 hk1;rw [hkk] at hl;refine ⟨.int kk i::cs',nh,ids,by simp [Al,hl,a1],a2,a3,a4,a5,a6,a8,fun n0c σc s0 hw=>⟨?_,a7 n0c σc s0 hw⟩⟩;have hv:v=.int kk i:=hc.1;exact hv
    | bool b =>
      obtain ⟨⟨l,fr,nw⟩,k1,h1,h2⟩:=zza h;obtain ⟨⟨ls2,u2⟩,k2,h3,h4⟩:=zza h2;cases zzc h1;cases zzc h4;obtain ⟨cs',nh,ids,a1,a2,a3,a4,a5,a6,a8,a7⟩:=Lx m hc.2 hk h3 q rest;cases hl:AJ P t<;>rw [hl] at hk1<;>simp [BD] at hk1;refine ⟨.bool b::cs',nh,ids,by simp [Al,hl,a1],a2,a3,a4,a5,a6,a8,fun n0c σc s0 hw=>⟨?_,a7 n0c σc s0 hw⟩⟩;have hv:v=.bool b:=hc.1;exact hv
    | str x =>
      obtain ⟨⟨l,fr,nw⟩,k1,h1,h2⟩:=zza h;obtain ⟨⟨ls2,u2⟩,k2,h3,h4⟩:=zza h2;cases zzc h1;cases zzc h4;obtain ⟨cs',nh,ids,a1,a2,a3,a4,a5,a6,a8,a7⟩:=Lx m hc.2 hk h3 q rest;cases hl:AJ P t<;>rw [hl] at hk1<;>simp [BD] at hk1;refine ⟨.str x::cs',nh,ids,by simp [Al,hl,a1],a2,a3,a4,a5,a6,a8,fun n0c σc s0 hw=>⟨?_,a7 n0c σc s0 hw⟩⟩;have hv:v=.string x:=hc.1;exact hv
    | nil e =>
      obtain ⟨⟨l,fr,nw⟩,k1,h1,h2⟩:=zza h;obtain ⟨⟨ls2,u2⟩,k2,h3,h4⟩:=zza h2;cases zzc h1;cases zzc h4;obtain ⟨cs',nh,ids,a1,a2,a3,a4,a5,a6,a8,a7⟩:=Lx m hc.2 hk h3 (q+1) rest;cases hl:AJ P t<;>rw [hl] at hk1<;>simp [BD] at hk1;rename_i e2;subst hk1;obtain ⟨t0,ts0,ht0,hts0,av,hv⟩:=hc.1;refine ⟨.own e2 q::cs',(q,{ e:=e2,frozen:=false,nw:=false,l:=[],dirty:=true })::nh,none::ids,by simp [Al,hl,a1],⟨rfl,rfl,⟨rfl,t0,ts0,ht0,hts0⟩,a2⟩,fun n hn=>?_,a4,fun n hn=>?_,by simpa using a6,
        fun p hp=>?_,fun n0c σc s0 hw=>⟨⟨⟨t0,ht0,_,_,_,hv⟩,fun h3 hh3=>?_⟩,a7 n0c σc s0 hw.2.2⟩⟩
      · exact (a3 n hn).imp (fun h=>h) (fun h=>zzm _ h)
      · simp at hn;exact a5 n hn
      · rcases List.mem_cons.1 hp with rfl | hp
        · rfl
        · exact a8 p hp
      · rw [hw.2.1] at hh3;cases hh3;exact ⟨rfl,.inr ⟨hw.1,rfl,av,hv⟩⟩
    | own e id =>
      obtain ⟨k1,h1⟩:=zzf h;cases hh:s.getH id with
      | none=>rw [hh] at h1;exact (zzb h1).elim
      | some en =>
        rw [hh] at h1;simp only at h1
        split at h1
        case h_2=>exact (zzb h1).elim
        rename_i hg;simp only [zzj,Bool.not_eq_true'] at hg;obtain ⟨⟨ls2,u2⟩,k2,h3,h4⟩:=zza h1;cases zzc h4;obtain ⟨cs',nh,ids,a1,a2,a3,a4,a5,a6,a8,a7⟩:=Lx m hc.2 hk h3 (q+1) rest;cases hl:AJ P t<;>rw [hl] at hk1<;>simp [BD] at hk1;rename_i e2;subst hk1;have hnu:id∉used:=fun hm=>by have:=CR.2 hm;rw [this] at hg;cases hg.2
        obtain ⟨hc1,hc2⟩:=hc.1;have he:=(hc2 en hh).1;refine ⟨.own e2 q::cs',(q,{ e:=e2,frozen:=false,nw:=false,l:=en.l,dirty:=true })::nh,some id::ids,by simp [Al,hl,a1],⟨rfl,rfl,⟨en,hh,he.symm,rfl,hg.1,fun h=>by cases h⟩,a2⟩,fun n hn=>?_,fun n hn=>a4 n (zzm _ hn),fun n hn=>?_,?_,
          fun p hp=>?_,fun n0c σc s0 hw=>⟨fA (h':={ e:=e2,frozen:=false,nw:=false,l:=en.l,dirty:=true }) hc.1 hh he.symm rfl hw.1 hw.2.1,a7 n0c σc s0 hw.2.2⟩⟩
        · rcases a3 n hn with h | h
          · rcases List.mem_cons.1 h with rfl | h
            · exact .inr zzl
            · exact .inl h
          · exact .inr (zzm _ h)
        · rcases List.mem_cons.1 hn with h | h
          · cases h;exact ⟨a4 id zzl,hnu⟩
          · exact ⟨(a5 n h).1,fun hm=>(a5 n h).2 (zzm _ hm)⟩
        · show (id::ids.filterMap _root_.id).Nodup;refine List.nodup_cons.2 ⟨fun hm=>?_,a6⟩;have:some id∈ids:=by simpa using hm
          exact (a5 id this).2 zzl
        · rcases List.mem_cons.1 hp with rfl | hp
          · rfl
          · exact a8 p hp
    | imm e nw l=>exact (zzb h).elim
    | _ =>
      obtain ⟨⟨l,fr,nw⟩,k1,h1,h2⟩:=zza h;exact (zzb h1).elim
  | [],_::_,_,_,_,_,_,_,_,hk,_=>by simp [AX] at hk
  | _::_,[],_,_,_,_,_,_,_,hk,_=>by simp [AX] at hk
  | _,[],_::_,_,_,_,_,_,hc,_,_=>hc.elim
  | _,_::_,[],_,_,_,_,_,hc,_,_=>hc.elim
theorem fD (m : Mem P n0 β σ s w) : ∀ {ts : List TypeId} {cs : List (AC0 E N)} {vals : List Value} {ls : List AR} {fr : List (Nat × Option (HEnt (std E N)))} {nw : Bool} {k k' : Nat}, RelCs P n0 β σ s w cs vals → AX P ts cs = true →
    RM.run s (LL (O:=std E N) cs) k=.ok ((ls,fr,nw),k')→∀ (q:Nat) (rest:List AR),FrOK s fr∧(∀ x∈fr,x.1∈AF cs)∧∃ (cs':List (AC0 E N)),
      Al (O:=std E N) P false q ts (ls++rest)=some (cs',[],rest) ∧
      ∀ (s1:St0 E N) (n0c:Nz) (σc:Nat→Option (Nat×Nat)) (s0:St0 E N),Sub s s1→Frz s1 fr→(∀ b,StB n0 β σ s1 false b→StB n0c noB σc s0 false b)→RelCs P n0c noB σc s0 w cs' vals
  | [],[],[],ls,fr,nw,k,k',_,_,h=>by
    cases zzc h;intro q rest;exact ⟨fun _ _ hm=>by simp at hm,fun _ hm=>by simp at hm,[],rfl,fun _ _ _ _ _ _ _=>trivial⟩
  | t::ts,c::cs,v::vals,ls,fr,nw,k,k',hc,hk,h=>by
    simp only [AX] at hk
    split at hk
    case h_2=>cases hk
    rename_i hk1;intro q rest;obtain ⟨⟨l,f1,n1⟩,k1,h1,h2⟩:=zza h;obtain ⟨⟨ls2,f2,n2⟩,k2,h3,h4⟩:=zza h2;have hr:=zzc h4;simp only [Prod.mk.injEq] at hr;obtain ⟨rfl,rfl,rfl⟩:=hr;obtain ⟨a1,a2,a3⟩:=Xy m hc.1 h1;obtain ⟨b1,b2,cs',b3,b4⟩:=fD m hc.2 hk h3 q rest;refine ⟨a1.append b1,fun x hx=>?_,?_⟩
    · rcases List.mem_append.1 hx with h | h
      · simp [AF,a2 x h]
      · simp [AF,b2 x h]
    · have rep : ∀ (s1 : St0 E N), Sub s s1 → Frz s1 (f1 ++ f2) → Rep P w (StB n0 β σ s1 false) t v l.pv := fun s1 hs hf =>
        a3 t s1 hk1 hs (fun x hx h hh=>by obtain ⟨h',e1,e2⟩:=hf.left x hx;rw [e1] at hh;cases hh;exact e2)
          (fun x hx=>by obtain ⟨h',e1,_⟩:=hf.left x hx;exact ⟨h',e1⟩) false (fun e=>by cases e)
      have sl : ∀ (e : TypeId) (r : Rows), AJ P t = .sl e → l = .rows r → ∃ (cs' : List (AC0 E N)),
          Al (O:=std E N) P false q (t::ts) (l::ls2++rest)=some (cs',[],rest) ∧
          ∀ (s1:St0 E N) (n0c:Nz) (σc:Nat→Option (Nat×Nat)) (s0:St0 E N),Sub s s1→Frz s1 (f1++f2)→(∀ b,StB n0 β σ s1 false b→StB n0c noB σc s0 false b)→RelCs P n0c noB σc s0 w cs' (v::vals):=fun e r hl hlr=>by
        subst hlr;exact ⟨.imm e false r::cs',by simp [Al,hl,b3],fun s1 n0c σc s0 hs hf hst=>⟨⟨t,hl,(rep s1 hs hf).st hst⟩,b4 s1 n0c σc s0 hs hf.right hst⟩⟩
      cases c with
      | int kk i =>
        cases zzc h1;cases hl:AJ P t<;>rw [hl] at hk1<;>simp [BD] at hk1;have hkk:=GJ.1 hk1;rw [hkk] at hl;have hv:v=.int kk i:=hc.1;exact ⟨.int kk i::cs',by simp [Al,hl,b3],fun s1 n0c σc s0 hs hf hst=>⟨hv,b4 s1 n0c σc s0 hs hf.right hst⟩⟩
      | bool b =>
        cases zzc h1;cases hl:AJ P t<;>rw [hl] at hk1<;>simp [BD] at hk1;have hv:v=.bool b:=hc.1;exact ⟨.bool b::cs',by simp [Al,hl,b3],fun s1 n0c σc s0 hs hf hst=>⟨hv,b4 s1 n0c σc s0 hs hf.right hst⟩⟩
      | str x =>
        cases zzc h1;cases hl:AJ P t<;>rw [hl] at hk1<;>simp [BD] at hk1;have hv:v=.string x:=hc.1;exact ⟨.str x::cs',by simp [Al,hl,b3],fun s1 n0c σc s0 hs hf hst=>⟨hv,b4 s1 n0c σc s0 hs hf.right hst⟩⟩
      | nil e =>
        cases zzc h1;cases hl:AJ P t<;>rw [hl] at hk1<;>simp [BD] at hk1;exact sl _ _ hl rfl
      | imm e nw l =>
        cases zzc h1;cases hl:AJ P t<;>rw [hl] at hk1<;>simp [BD] at hk1;exact sl _ _ hl rfl
      | own e id =>
        obtain ⟨k1,h1⟩:=zzf h1;cases hh:s.getH id with
        | none=>rw [hh] at h1;exact (zzb h1).elim
        | some en =>
          rw [hh] at h1;cases zzc h1;cases hl:AJ P t<;>rw [hl] at hk1<;>simp [BD] at hk1;exact sl _ _ hl rfl
      | _=>exact (zzb h1).elim
  | [],_::_,_,_,_,_,_,_,_,hk,_=>by simp [AX] at hk
  | _::_,[],_,_,_,_,_,_,_,hk,_=>by simp [AX] at hk
  | _,[],_::_,_,_,_,_,_,hc,_,_=>hc.elim
  | _,_::_,[],_,_,_,_,_,hc,_,_=>hc.elim
def fnV (v:Val (std E N)):Option (Nat×List (Cap (std E N))):=match v with
 | ⟨false,[.fn f caps]⟩=>some (f,caps)
 | _=>none
theorem kA {v:Val (std E N)} {f:Nat} {caps:List (Cap (std E N))} (h:fnV v=some (f,caps)):v=⟨false,[.fn f caps]⟩:=by
 unfold fnV at h
 split at h
 ·cases h;rfl
 ·cases h
theorem fV {gv : List Bool} {used : List Nat} {v : Val (std E N)} {r : List (AV (std E N))} (h : fnV v = none) : LH P gv used (.val v :: r) = match gv.headD false with
    | true=>(Tn used v.cs).bind fun (ls,u)=>(LH P gv.tail u r).bind fun (ls',fr,u')=>.ret (ls++ls',fr,u')
    | false=>(LL v.cs).bind fun (ls,fr,_)=>(LH P gv.tail used r).bind fun (ls',fr',u')=>.ret (ls++ls',fr++fr',u'):=by
  rcases v with ⟨_ | _,_ | ⟨c,_ | ⟨d,l⟩⟩⟩<;>try rfl
  · cases c<;>first | rfl | cases h
  · cases c<;>rfl
theorem mt {v : Val (std E N)} {r : List (AV (std E N))} (h : fnV v = none) : H9 (.val v :: r) = match v.cs.all oc with
    | true=>H9 r
    | false=>none:=by
  rcases v with ⟨_ | _,_ | ⟨c,_ | ⟨d,l⟩⟩⟩<;>try rfl
  · cases c<;>first | rfl | cases h
  · cases c<;>rfl
theorem bD {v:Val (std E N)} {r:List (AV (std E N))} (h:fnV v=none):RB (.val v::r)=RB r:=by
 rcases v with ⟨_ | _,_ | ⟨c,_ | ⟨d,l⟩⟩⟩<;>try rfl
 ·cases c<;>first | rfl | cases h
 ·cases c with
  | fn f caps=>cases caps<;>rfl
  | _=>rfl
theorem md {t : TypeId} {ts : List TypeId} {v : Val (std E N)} {r : List (AV (std E N))} (h : fnV v = none) (ha : HB P (t :: ts) (.val v :: r) = true) :
    AJ P t≠.fn∧∃ l,AO P t=some l∧v.agg=AW P t∧AX P l v.cs=true∧HB P ts r=true:=by
  simp only [HB,zzj] at ha;obtain ⟨ha,hr⟩:=ha;have key : AJ P t ≠ .fn ∧ (match AO P t with
      | some l=>v.agg==AW P t&&AX P l v.cs
      | none=>false)=true:=by
    rcases v with ⟨_ | _,_ | ⟨c,_ | ⟨d,l⟩⟩⟩
    · cases hl:AJ P t<;>rw [hl] at ha<;>first | exact ⟨by simp,ha⟩ | cases ha
    · cases c with
      | fn f caps=>cases h
      | _=>cases hl:AJ P t<;>rw [hl] at ha<;>first | exact ⟨by simp,ha⟩ | cases ha
    · cases c<;>cases hl:AJ P t<;>rw [hl] at ha<;>first | exact ⟨by simp,ha⟩ | cases ha
    all_goals (cases hl:AJ P t<;>rw [hl] at ha<;>first | exact ⟨by simp,ha⟩ | cases ha)
  refine ⟨key.1,?_⟩;have k2:=key.2
  split at k2
  · rename_i l htl;simp only [zzj,beq_iff_eq] at k2;exact ⟨l,htl,k2.1,k2.2,hr⟩
  · cases k2
theorem pL {t:TypeId} {ts:List TypeId} {f:Nat} {caps:List (Cap (std E N))} {r:List (AV (std E N))} (ha:HB P (t::ts) (.val ⟨false,[.fn f caps]⟩::r)=true):AJ P t=.fn∧HB P ts r=true:=by
 simp only [HB,zzj] at ha;obtain ⟨ha,hr⟩:=ha;refine ⟨?_,hr⟩;cases hl:AJ P t<;>rw [hl] at ha<;>first | rfl | (simp at ha)
theorem qe {T:TypeId} (h:nT P T=true):∃ t,AJ P t=.sl T:=by
 unfold nT at h
 split at h
 ·rename_i t _
  split at h
  ·rename_i e he;exact ⟨t,by rw [he,AD.1 h]⟩
  ·cases h
 ·cases h
theorem fg {St : Nat → Prop} : ∀ {ts : List TypeId} {cs : List (AC0 E N)} {vals : List Value} {ls : List AR} {fr : List (Nat × Option (HEnt (std E N)))} {nw : Bool} {k k' : Nat}, cs.all dj = true → AX P ts cs = true → RelCs P n0 β σ s w cs vals → RM.run s (LL (O := std E N) cs) k = .ok ((ls, fr, nw), k') →
    ls.length=ts.length∧∀ (j:Nat) (t':TypeId) (v:Value),ts[j]?=some t'→vals[j]?=some v→Rep P w St t' v (AA (ls.map Leaf.pv) j)
  | [],[],[],ls,fr,nw,k,k',_,_,_,h=>by
    cases zzc h;exact ⟨rfl,fun j t' v hj=>by simp at hj⟩
  | t::ts,c::cs,v::vals,ls,fr,nw,k,k',hp,hk,hc,h=>by
    simp only [AX] at hk
    split at hk
    case h_2=>cases hk
    rename_i hk1;simp only [List.all_cons,zzj] at hp;obtain ⟨⟨l,f1,n1⟩,k1,h1,h2⟩:=zza h;obtain ⟨⟨ls2,f2,n2⟩,k2,h3,h4⟩:=zza h2;have hr:=zzc h4;simp only [Prod.mk.injEq] at hr;obtain ⟨rfl,_,_⟩:=hr;obtain ⟨a1,a2⟩:=fg (St:=St) hp.2 hk hc.2 h3;have hd:Rep P w St t v l.pv:=by
      have hv:=hc.1;cases c with
      | int kk i =>
        cases zzc h1;cases hl:AJ P t<;>rw [hl] at hk1<;>simp [BD] at hk1;have hkk:=GJ.1 hk1;rw [hkk] at hl;have hv:v=.int kk i:=hv;subst hv;exact .int hl
      | bool b =>
        cases zzc h1;cases hl:AJ P t<;>rw [hl] at hk1<;>simp [BD] at hk1;have hv:v=.bool b:=hv;subst hv;exact .bool hl
      | str x =>
        cases zzc h1;cases hl:AJ P t<;>rw [hl] at hk1<;>simp [BD] at hk1;have hv:v=.string x:=hv;subst hv;exact .str hl
      | _=>simp [dj] at hp
    refine ⟨by simp [a1],fun j t' v' hj hv=>?_⟩;cases j with
    | zero =>
      simp at hj hv;subst hj;subst hv;exact hd
    | succ j=>exact a2 j t' v' (by simpa using hj) (by simpa using hv)
  | [],_::_,_,_,_,_,_,_,_,hk,_,_=>by simp [AX] at hk
  | _::_,[],_,_,_,_,_,_,_,hk,_,_=>by simp [AX] at hk
  | _,[],_::_,_,_,_,_,_,_,_,hc,_=>hc.elim
  | _,_::_,[],_,_,_,_,_,_,_,hc,_=>hc.elim
theorem eh (m : Mem P n0 β σ s w) : ∀ {ts : List TypeId} {caps : List (Cap (std E N))} {cl : List AR} {k k' : Nat}, RM.run s (jH (O := std E N) P ts caps) k = .ok (cl, k') → ∀ (rest : List AR),
    ∃ caps',Ek (O:=std E N) ts (cl++rest)=some (caps',rest)∧caps'.length=caps.length ∧
      ∀ (n0c:Nz) (σc:Nat→Option (Nat×Nat)) (s0:St0 E N),(caps≠[]→∀ b e blk,s.getB b=some e→β b=some blk→StB n0c noB σc s0 false blk) →
        ∀ (vs:List Value),(∀ (i:Nat) (c:Cap (std E N)),caps[i]?=some c→∃ x:Value,vs[i]?=some x∧RE P n0 β σ s w c x) →
          ∀ (i:Nat) (c:Cap (std E N)),caps'[i]?=some c→∃ x:Value,vs[i]?=some x∧RE P n0c noB σc s0 w c x
  | [],[],cl,k,k',h=>by
    cases zzc h;intro rest;exact ⟨[],rfl,rfl,fun _ _ _ _ vs _ i c hc=>by simp at hc⟩
  | T::ts,.box b off::caps,cl,k,k',h=>by
    obtain ⟨k1,h0⟩:=zzg h;cases hb:s.getB b with
    | none=>rw [hb] at h0;exact (zzb h0).elim
    | some e =>
      rw [hb] at h0;simp only at h0
      split at h0
      case h_2=>exact (zzb h0).elim
      rename_i l cs htl hsl;obtain ⟨_,k2,h1,h2⟩:=zza h0;have hg:=zzd h1;simp only [zzj] at hg;obtain ⟨⟨ls,fr,nw⟩,k3,h3,h4⟩:=zza h2;obtain ⟨more,k4,h5,h6⟩:=zza h4;cases zzc h6;intro rest;obtain ⟨caps',a1,a2,a3⟩:=eh m h5 rest;obtain ⟨hcs,hlen⟩:=C5 hsl;refine ⟨.row T [ls.map Leaf.pv]::caps',?_,by simp [a2],fun n0c σc s0 hbx vs hvs i c hc=>?_⟩
      · show (Ek (O:=std E N) ts (more++rest)).map _=_;rw [a1];rfl
      · cases i with
        | succ i =>
          obtain ⟨x,hx,hr⟩:=a3 n0c σc s0 (fun _=>hbx (by simp)) vs.tail (fun i c hc=>by
            obtain ⟨x,hx,hr⟩:=hvs (i+1) c (by simpa using hc);exact ⟨x,by rw [List.getElem?_tail];exact hx,hr⟩) i c (by simpa using hc)
          exact ⟨x,by rw [List.getElem?_tail] at hx;exact hx,hr⟩
        | zero =>
          simp at hc;subst hc;obtain ⟨x,hx,blk,hxv,hxb⟩:=hvs 0 _ rfl;refine ⟨x,hx,Nat.zero_lt_one,?_⟩;have hblk:=hxb e hb;obtain ⟨blk',cells,el,q1,q2,q3,_⟩:=m.B b e hb;rw [hblk] at q1;cases q1;obtain ⟨t,ht⟩:=qe hg.2;obtain ⟨hsz,hpos⟩:=Cm htl;have hrel:RelCs P n0 β σ s w cs ((cells.toList.drop off).take (P.cellsOf T)):=by rw [hcs];exact (q3.drop off).take _
          have hvl:((cells.toList.drop off).take (P.cellsOf T)).length=l.length:=by rw [← RelCs.length hrel,hlen,hsz]
          obtain ⟨p1,p2⟩:=fg (St:=StB n0c noB σc s0 false) hg.1.2 hg.1.1 hrel h3;have cell:∀ j,j<l.length→((cells.toList.drop off).take (P.cellsOf T))[j]?=some (cells.toList.getD (off+j) undef):=fun j hj=>by
            have h2:=hvl;rw [List.length_take,List.length_drop] at h2;rw [List.getElem?_take,if_pos (by omega),List.getElem?_drop,zzk,zzn (by omega)];rfl
          refine ⟨t,l,blk,off,1,1,ht,htl,.sl (fun _ j=>cells.toList.getD (off+j) undef) ht htl rfl (fun r hr=>?_) (Nat.le_refl _) (.inr ⟨blk,off,rfl,hbx (by simp) b e blk hb hblk,?_,fun i j hi hj=>?_⟩) (fun i j t' hi hj=>?_),hxv⟩
          · rw [List.mem_singleton.1 hr,List.length_map,p1]
          · exact A9 q2
          · have:i=0:=by omega
            subst this;rw [cell_of_heap q2,Nat.zero_mul,Nat.zero_add];have h2:=hvl;rw [List.length_take,List.length_drop] at h2;rw [zzk,Array.getElem?_toList];have:off+j<cells.size:=by simp at h2;omega
            rw [Array.getElem?_eq_getElem this];rfl
          · have:i=0:=by omega
            subst this;exact p2 j t' _ hj (cell j (List.getElem?_eq_some_iff.1 hj).1)
  | T::ts,.row e l::caps,cl,k,k',h=>(zzb h).elim
  | [],_::_,cl,k,k',h=>(zzb h).elim
  | _::_,[],cl,k,k',h=>(zzb h).elim
theorem SR (m : Mem P n0 β σ s w) : ∀ {params : List TypeId} {args : List (AV (std E N))} {vals : List Value} {gives : List Bool} {fns : List Nat} {used u : List Nat} {ls : List AR} {fr : List (Nat × Option (HEnt (std E N)))} {k k' : Nat},
    RelArgs P n0 β σ s w args vals→HB P params args=true→H9 args=some fns→RM.run s (LH (O:=std E N) P gives used args) k=.ok ((ls,fr,u),k') →
    ∀ (q:Nat),FrOK s fr∧∃ (vs:List (AV (std E N))) (nh:List (Nat×HEnt (std E N))) (ids:List (Option Nat)),
      A8 (O:=std E N) P gives q params fns ls=some (vs,nh)∧Ents P s q ids nh∧(∀ n∈u,n∈used∨some n∈ids)∧(∀ n∈used,n∈u)∧(∀ n,some n∈ids→n∈u∧n∉used)∧(ids.filterMap id).Nodup∧(∀ p∈nh,p.2.nw=false) ∧
      ∀ (s1:St0 E N) (n0c:Nz) (σc:Nat→Option (Nat×Nat)) (s0:St0 E N),Sub s s1→Frz s1 fr→(∀ b,StB n0 β σ s1 false b→StB n0c noB σc s0 false b)→(RB args=false→∀ b e blk,s.getB b=some e→β b=some blk→StB n0c noB σc s0 false blk)→Wired σ σc s0 q ids nh→RelArgs P n0c noB σc s0 w vs vals
  | [],[],[],gives,fns,used,u,ls,fr,k,k',_,_,hf,h=>by
    cases zzc h;simp only [H9] at hf;cases hf;intro q;exact ⟨fun _ _ hm=>by simp at hm,[],[],[],rfl,trivial,fun n hn=>.inl hn,fun n hn=>hn,fun n hn=>by simp at hn,List.nodup_nil,fun p hp=>by simp at hp,fun _ _ _ _ _ _ _ _ _=>trivial⟩
  | t::params,.tup y::args,v::vals,gives,fns,used,u,ls,fr,k,k',hr,ha,hf,h=>by simp [H9] at hf
  | t::params,.val y::args,v::vals,gives,fns,used,u,ls,fr,k,k',hr,ha,hf,h=>by
    intro q;cases hy:fnV y with
    | some fc =>
      obtain ⟨f,caps⟩:=fc;have:=kA hy;subst this;obtain ⟨hl,ha2⟩:=pL ha;simp only [H9,zzo] at hf;obtain ⟨fns2,hf2,rfl⟩:=hf;obtain ⟨ts0,k1,h1,h2⟩:=zza h;have hct:=zzh h1;obtain ⟨cl,k2,h3,h4⟩:=zza h2;obtain ⟨⟨ls2,fr2,u2⟩,k3,h5,h6⟩:=zza h4;cases zzc h6;obtain ⟨b0,vs,nh,ids,b1,b2,b3,b4,b5,b6,b7,b8⟩:=SR m hr.2 ha2 hf2 (gives:=gives.tail) h5 q;obtain ⟨caps',c1,c2,c3⟩:=eh m h3 ls2;refine ⟨b0,one (.fn f caps')::vs,nh,ids,by simp only [A8,hl,hct,c1,b1];rfl,b2,b3,b4,b5,b6,b7,fun s1 n0c σc s0 hs hfz hst hbx hw=>⟨?_,b8 s1 n0c σc s0 hs hfz hst (fun hn=>hbx (by
        cases caps with
        | nil=>exact hn
        | cons c r=>rfl)) hw⟩⟩
      refine ⟨?_,hr.1.2⟩;have h1:=hr.1.1
      revert h1
      generalize v.cells.toList=L;intro h1
      match L,h1 with
      | [z],h1 =>
        obtain ⟨vs2,e1,e2,e3⟩:=h1.1;exact ⟨⟨vs2,e1,by rw [c2];exact e2,c3 n0c σc s0 (fun hne=>hbx (by
          cases caps with
          | nil=>exact absurd rfl hne
          | cons c r=>rfl)) vs2 e3⟩,trivial⟩
    | none =>
      obtain ⟨hl,l,htl,hag,hk,ha2⟩:=md hy ha;have hf2:H9 args=some fns:=by
        rw [mt hy] at hf
        split at hf
        · exact hf
        · cases hf
      rw [fV hy] at h
      split at h
      · rename_i hg;obtain ⟨⟨ls1,u1⟩,k1,h1,h2⟩:=zza h;obtain ⟨⟨ls2,fr2,u2⟩,k2,h3,h4⟩:=zza h2;cases zzc h4;obtain ⟨cs',nh1,ids1,a1,a2,a3,a4,a5,a6,a8,a7⟩:=Lx m hr.1.1 hk h1 q ls2;obtain ⟨b0,vs,nh2,ids2,b1,b2,b3,b4,b5,b6,b7,b8⟩:=SR m hr.2 ha2 hf2 h3 (q+nh1.length);have hlen:=a2.len;refine ⟨b0,.val { agg:=AW P t,cs:=cs' }::vs,nh1++nh2,ids1++ids2,?_,a2.append b2,fun n hn=>?_,fun n hn=>b4 n (a4 n hn),fun n hn=>?_,?_,fun p hp=>(List.mem_append.1 hp).elim (a8 p) (b7 p),fun s1 n0c σc s0 hs hfz hst hbx hw=>⟨⟨a7 n0c σc s0 (hw.left hlen),?_⟩,b8 s1 n0c σc s0 hs hfz hst (fun hn=>hbx ((bD hy).trans hn)) (hw.right hlen)⟩⟩
        · have hg':gives.headD false=true:=hg;cases hl2:AJ P t<;>first | (exact absurd hl2 hl) | (simp only [A8,hl2,htl,hg',a1,b1];rfl)
        · rcases b3 n hn with h | h
          · rcases a3 n h with h | h
            · exact .inl h
            · exact .inr (List.mem_append_left _ h)
          · exact .inr (List.mem_append_right _ h)
        · rcases List.mem_append.1 hn with h | h
          · exact ⟨b4 n (a5 n h).1,(a5 n h).2⟩
          · exact ⟨(b5 n h).1,fun hm=>(b5 n h).2 (a4 n hm)⟩
        · rw [List.filterMap_append];refine List.nodup_append.2 ⟨a6,b6,fun x hx y hy hxy=>?_⟩;have hx2:some x∈ids1:=by simpa using hx
          have hy2:some y∈ids2:=by simpa using hy
          exact (b5 y hy2).2 (hxy▸(a5 x hx2).1)
        · rw [← hag];exact hr.1.2
      · rename_i hg;obtain ⟨⟨ls1,f1,nw1⟩,k1,h1,h2⟩:=zza h;obtain ⟨⟨ls2,fr2,u2⟩,k2,h3,h4⟩:=zza h2;cases zzc h4;obtain ⟨a1,a2,cs',a3,a4⟩:=fD m hr.1.1 hk h1 q ls2;obtain ⟨b0,vs,nh2,ids2,b1,b2,b3,b4,b5,b6,b7,b8⟩:=SR m hr.2 ha2 hf2 h3 q;refine ⟨a1.append b0,.val { agg:=AW P t,cs:=cs' }::vs,nh2,ids2,?_,b2,b3,b4,b5,b6,b7,fun s1 n0c σc s0 hs hfz hst hbx hw=>⟨⟨a4 s1 n0c σc s0 hs hfz.left hst,?_⟩,b8 s1 n0c σc s0 hs hfz.right hst (fun hn=>hbx ((bD hy).trans hn)) hw⟩⟩
        · have hg':gives.headD false=false:=hg;cases hl2:AJ P t<;>first | (exact absurd hl2 hl) | (simp only [A8,hl2,htl,hg',a3,List.length_nil,Nat.add_zero,b1];rfl)
        · rw [← hag];exact hr.1.2
  | [],_::_,_,_,_,_,_,_,_,_,_,_,ha,_,_=>by simp [HB] at ha
  | _::_,[],_,_,_,_,_,_,_,_,_,_,ha,_,_=>by simp [HB] at ha
  | _,[],_::_,_,_,_,_,_,_,_,_,hr,_,_,_=>hr.elim
  | _,_::_,[],_,_,_,_,_,_,_,_,hr,_,_,_=>hr.elim
end
section
variable {E:Env} {N:Nat} {P:Program} {n0 n0':Nz} {nt:Nat} {β β':Nat→Option Nat} {σ σ':Nat→Option (Nat×Nat)} {s s':St0 E N} {a:Act} {w w':World}
def Row:Nat→List (Nat×HEnt (std E N))→Prop
 | _,[]=>True
 | q,(k,h)::r=>k=q∧Row (q+1) r
theorem Row.append:∀ {q:Nat} {r r':List (Nat×HEnt (std E N))},Row q r→Row (q+r.length) r'→Row q (r++r')
 | _,[],_,_,h=>by simpa using h
 | q,(k,h')::r,_,h,h2=>⟨h.1,Row.append h.2 (by simpa [Nat.add_assoc,Nat.add_comm 1] using h2)⟩
theorem Row.mem:∀ {q:Nat} {r:List (Nat×HEnt (std E N))},Row q r→∀ p∈r,q≤p.1∧p.1<q+r.length
 | q,(k,h')::r,h,p,hp=>by
  rcases List.mem_cons.1 hp with rfl | hp
  ·have:=h.1;subst this;simp
  ·have:=Row.mem h.2 p hp;simp;omega
theorem Row.get:∀ {q:Nat} {r:List (Nat×HEnt (std E N))},Row q r→∀ {n:Nat} {h:HEnt (std E N)},AH r n=some h→(n,h)∈r
 | q,(k,h')::r,hr,n,h,hg=>by
  simp only [AH] at hg
  split at hg
  ·rename_i e;have:=AD.1 e;subst this;cases hg;exact zzl
  ·exact zzm _ (Row.get hr.2 hg)
theorem Row.has:∀ {q:Nat} {r:List (Nat×HEnt (std E N))},Row q r→∀ {n:Nat} {h:HEnt (std E N)},(n,h)∈r→AH r n=some h
 | q,(k,h')::r,hr,n,h,hg=>by
  simp only [AH]
  rcases List.mem_cons.1 hg with e | hg
  ·cases e;rw [AD.2 rfl]
  ·have h1:=Row.mem hr.2 _ hg;have h2:=hr.1;have:Nat.beq k n=false:=by
    cases hb:Nat.beq k n with
    | false=>rfl
    | true=>have:=AD.1 hb;simp at h1;omega
   rw [this];exact Row.has hr.2 hg
theorem Row.at:∀ {q:Nat} {r:List (Nat×HEnt (std E N))},Row q r→∀ {n:Nat},q≤n→n<q+r.length→∃ h,(n,h)∈r
 | q,[],_,n,h1,h2=>by simp at h2;omega
 | q,(k,h')::r,hr,n,h1,h2=>by
  by_cases h:n=q
  ·exact ⟨h',by rw [h,← hr.1];exact zzl⟩
  ·obtain ⟨h3,h4⟩:=Row.at hr.2 (n:=n) (by omega) (by simp at h2;omega);exact ⟨h3,zzm _ h4⟩
theorem Ents.row:∀ {q:Nat} {os:List (Option Nat)} {r:List (Nat×HEnt (std E N))},Ents P s q os r→Row q r
 | _,[],[],_=>trivial
 | _,_::_,(_,_)::_,h=>⟨h.1,Ents.row h.2.2.2⟩
 | _,[],_::_,h=>h.elim
 | _,_::_,[],h=>h.elim
theorem Ents.find:∀ {q:Nat} {os:List (Option Nat)} {r:List (Nat×HEnt (std E N))},Ents P s q os r→∀ {n:Nat} {h:HEnt (std E N)},(n,h)∈r→∃ i o,n=q+i∧os[i]?=some o∧oA P s h o∧h.frozen=false
 | q,o::os,(k,h')::r,he,n,h,hm=>by
  rcases List.mem_cons.1 hm with e | hm
  ·cases e;exact ⟨0,o,he.1,rfl,he.2.2.1,he.2.1⟩
  ·obtain ⟨i,o',h1,h2,h3⟩:=Ents.find he.2.2.2 hm;exact ⟨i+1,o',by omega,h2,h3⟩
 | _,[],_::_,h,_,_,_=>h.elim
theorem VN {σc : Nat → Option (Nat × Nat)} {s0 : St0 E N} : ∀ {q : Nat} {os : List (Option Nat)} {r : List (Nat × HEnt (std E N))},
    (∀ i o p,os[i]?=some o→r[i]?=some p→σc (q+i)=o.bind σ∧s0.getH (q+i)=some p.2)→Wired σ σc s0 q os r
  | q, o :: os, (k, h') :: r, h => ⟨(h 0 o _ rfl rfl).1, (h 0 o _ rfl rfl).2, VN (fun i o' p h1 h2 => by
      have:=h (i+1) o' p (by simpa using h1) (by simpa using h2);rw [show q+1+i=q+(i+1) by omega];exact this)⟩
  | _,[],_,_=>by unfold Wired;trivial
  | _,_::_,[],_=>by unfold Wired;trivial
theorem Row.idx:∀ {q:Nat} {r:List (Nat×HEnt (std E N))},Row q r→∀ {i:Nat} {p:Nat×HEnt (std E N)},r[i]?=some p→p.1=q+i
 | q,(k,h')::r,hr,0,p,h=>by simp at h;subst h;exact hr.1
 | q,(k,h')::r,hr,i+1,p,h=>by have:=Row.idx hr.2 (i:=i) (by simpa using h);omega
theorem Sr:∀ {os:List (Option Nat)} {i j x:Nat},(os.filterMap id).Nodup→os[i]?=some (some x)→os[j]?=some (some x)→i=j
 | o::os,i,j,x,hn,hi,hj=>by
  have mem:∀ {k:Nat},os[k]?=some (some x)→x∈os.filterMap id:=fun {k} h=>by
   simp only [List.mem_filterMap];exact ⟨some x,List.mem_of_getElem? h,rfl⟩
  cases o with
  | none =>
   have hn':(os.filterMap id).Nodup:=by simpa using hn
   cases i with
   | zero=>simp at hi
   | succ i=>cases j with
    | zero=>simp at hj
    | succ j=>rw [Sr hn' (i:=i) (j:=j) (by simpa using hi) (by simpa using hj)]
  | some y =>
   have hn':(y::os.filterMap id).Nodup:=by simpa using hn
   obtain ⟨h1,h2⟩:=List.nodup_cons.1 hn';cases i with
   | zero=>cases j with
    | zero=>rfl
    | succ j=>simp at hi hj;subst hi;exact (h1 (mem hj)).elim
   | succ i=>cases j with
    | zero=>simp at hi hj;subst hj;exact (h1 (mem hi)).elim
    | succ j=>rw [Sr h2 (i:=i) (j:=j) (by simpa using hi) (by simpa using hj)]
def OkC (q len:Nat) (nw:Bool):AC0 E N→Prop
 | .int _ _ | .bool _ | .str _=>True
 | .imm _ n _=>n=nw
 | .own _ k=>q≤k∧k<q+len
 | _=>False
theorem OkC.wide {q len q' len':Nat} {nw:Bool} {c:AC0 E N} (h:OkC q len nw c) (h1:q'≤q) (h2:q+len≤q'+len'):OkC q' len' nw c:=by
 cases c<;>first | exact h | (obtain ⟨a,b⟩:=h;exact ⟨by omega,by omega⟩)
def OkH (nw:Bool) (hs:List (Nat×HEnt (std E N))):Prop:=∀ p∈hs,p.2.nw=nw∧p.2.frozen=false∧p.2.dirty=true
theorem Pg {own : Nat → Bool} {nw : Bool} {c : List PV} : ∀ {ts : List TypeId} {j q : Nat} {cs : List (AC0 E N)} {hs : List (Nat × HEnt (std E N))}, As (O := std E N) P own nw c j q ts = some (cs, hs) →
    Row q hs∧OkH nw hs∧∀ x∈cs,OkC q hs.length nw x
  | [],j,q,cs,hs,h=>by
    simp only [As] at h;cases h;exact ⟨trivial,fun p hp=>by simp at hp,fun x hx=>by simp at hx⟩
  | t::ts,j,q,cs,hs,h=>by
    have plain:∀ (x:AC0 E N),(∀ len,OkC q len nw x)→(As (O:=std E N) P own nw c (j+1) q ts).map (fun p=>(x::p.1,p.2))=some (cs,hs)→Row q hs∧OkH nw hs∧∀ x∈cs,OkC q hs.length nw x:=fun x hx h=>by
      obtain ⟨⟨r,hh⟩,h1,h2⟩:=zzo.1 h;cases h2;obtain ⟨a1,a2,a3⟩:=Pg h1;exact ⟨a1,a2,fun y hy=>(List.mem_cons.1 hy).elim (fun e=>e▸hx _) (a3 y)⟩
    simp only [As] at h
    split at h
    · exact plain (.int _ _) (fun _=>trivial) h
    · exact plain (.bool _) (fun _=>trivial) h
    · exact plain (.str _) (fun _=>trivial) h
    · split at h
      · obtain ⟨⟨r,hh⟩,h1,h2⟩:=zzo.1 h;cases h2;obtain ⟨a1,a2,a3⟩:=Pg h1;refine ⟨⟨rfl,a1⟩,fun p hp=>?_,fun y hy=>?_⟩
        · rcases List.mem_cons.1 hp with rfl | hp
          · exact ⟨rfl,rfl,rfl⟩
          · exact a2 p hp
        · rcases List.mem_cons.1 hy with rfl | hy
          · exact ⟨Nat.le_refl _,by simp⟩
          · exact (a3 y hy).wide (by omega) (by simp;omega)
      · exact plain (.imm _ nw _) (fun _=>rfl) h
    · cases h
theorem Q1 {own : Nat → Bool} {nw : Bool} {c : List PV} : ∀ {ts : List TypeId} {j q : Nat} {vs : List (Val (std E N))} {hs : List (Nat × HEnt (std E N))}, BU (O := std E N) P own nw c j q ts = some (vs, hs) →
    Row q hs∧OkH nw hs∧∀ v∈vs,∀ x∈v.cs,OkC q hs.length nw x
  | [],j,q,vs,hs,h=>by
    simp only [BU] at h;cases h;exact ⟨trivial,fun p hp=>by simp at hp,fun x hx=>by simp at hx⟩
  | t::ts,j,q,vs,hs,h=>by
    simp only [BU] at h
    split at h
    · cases h
    · split at h
      · cases h
      · rename_i cs h1 hc
        split at h
        · cases h
        · rename_i vs2 h2 hv;cases h;obtain ⟨a1,a2,a3⟩:=Pg hc;obtain ⟨b1,b2,b3⟩:=Q1 hv;refine ⟨a1.append b1,fun p hp=>(List.mem_append.1 hp).elim (a2 p) (b2 p),fun v hv x hx=>?_⟩
          rcases List.mem_cons.1 hv with rfl | hv
          · exact (a3 x hx).wide (Nat.le_refl _) (by simp)
          · exact (b3 v hv x hx).wide (by omega) (by simp;omega)
theorem Y9 {u:List Nat}:∀ {fr:List (Nat×Option (HEnt (std E N)))},bq u fr=true→∀ x∈fr,x.1∉u
 | [],_,x,hx=>by simp at hx
 | (n,v)::r,h,x,hx=>by
  simp only [bq,zzj,Bool.not_eq_true'] at h
  rcases List.mem_cons.1 hx with rfl | hx
  ·intro hm;have:=CR.2 hm;rw [this] at h;cases h.1
  ·exact Y9 h.2 x hx
end
section
variable {E:Env} {N:Nat} {P:Program} {n0 n0':Nz} {nt:Nat} {β β':Nat→Option Nat} {σ σ':Nat→Option (Nat×Nat)} {s s':St0 E N} {a:Act} {w w':World}
theorem RelC.moved {n0c : Nz} {σ1 : Nat → Option (Nat × Nat)} {s1 s2 : St0 E N} {q len : Nat} {nw : Bool} {c : AC0 E N} {v : Value} (hc : OkC q len nw c) (h : RelC P n0c noB σ1 s1 w c v)
    (hσ:∀ n,q≤n→n<q+len→σ' n=σ1 n∧s2.getH n=s1.getH n) (hst:∀ b,StB n0c noB σ1 s1 nw b→StB n0 β σ' s2 nw b):RelC P n0 β σ' s2 w c v:=by
  cases c with
  | int k i=>exact h
  | bool b=>exact h
  | str x=>exact h
  | imm e n l =>
    have:n=nw:=hc;subst this;obtain ⟨t,ht,hr⟩:=h;exact ⟨t,ht,hr.st hst⟩
  | own e id =>
    obtain ⟨h1,h2⟩:=h;obtain ⟨e1,e2⟩:=hσ id hc.1 hc.2;refine ⟨h1,fun h3 hh3=>?_⟩;rw [e2] at hh3;obtain ⟨a1,a2⟩:=h2 h3 hh3;refine ⟨a1,?_⟩;unfold jZ at a2 ⊢;rw [e1];exact a2
  | _=>exact hc.elim
theorem RelCs.moved {n0c : Nz} {σ1 : Nat → Option (Nat × Nat)} {s1 s2 : St0 E N} {q len : Nat} {nw : Bool} (hσ : ∀ n, q ≤ n → n < q + len → σ' n = σ1 n ∧ s2.getH n = s1.getH n) (hst : ∀ b, StB n0c noB σ1 s1 nw b → StB n0 β σ' s2 nw b) :
    ∀ {cs:List (AC0 E N)} {vs:List Value},(∀ x∈cs,OkC q len nw x)→RelCs P n0c noB σ1 s1 w cs vs→RelCs P n0 β σ' s2 w cs vs
  | [],[],_,h=>h
  | c::cs,v::vs,hc,h=>⟨RelC.moved (hc c zzl) h.1 hσ hst,RelCs.moved hσ hst (fun x hx=>hc x (zzm _ hx)) h.2⟩
  | [],_::_,_,h=>h.elim
  | _::_,[],_,h=>h.elim
theorem RelVals.moved {n0c : Nz} {σ1 : Nat → Option (Nat × Nat)} {s1 s2 : St0 E N} {q len : Nat} {nw : Bool} (hσ : ∀ n, q ≤ n → n < q + len → σ' n = σ1 n ∧ s2.getH n = s1.getH n) (hst : ∀ b, StB n0c noB σ1 s1 nw b → StB n0 β σ' s2 nw b) :
    ∀ {cs:List (Val (std E N))} {vs:List Value},(∀ v∈cs,∀ x∈v.cs,OkC q len nw x)→RelVals P n0c noB σ1 s1 w cs vs→RelVals P n0 β σ' s2 w cs vs
  | [],[],_,h=>h
  | c::cs,v::vs,hc,h=>⟨⟨RelCs.moved hσ hst (hc c zzl) h.1.1,h.1.2⟩,RelVals.moved hσ hst (fun x hx=>hc x (zzm _ hx)) h.2⟩
  | [],_::_,_,h=>h.elim
  | _::_,[],_,h=>h.elim
theorem RelAV.moved {n0c : Nz} {σ1 : Nat → Option (Nat × Nat)} {s1 s2 : St0 E N} {q len : Nat} {nw : Bool} (hσ : ∀ n, q ≤ n → n < q + len → σ' n = σ1 n ∧ s2.getH n = s1.getH n) (hst : ∀ b, StB n0c noB σ1 s1 nw b → StB n0 β σ' s2 nw b)
    {vs:List (Val (std E N))} {v:Value} (hc:∀ v∈vs,∀ x∈v.cs,OkC q len nw x) (h:RelAV P n0c noB σ1 s1 w (Jg vs) v):RelAV P n0 β σ' s2 w (Jg vs) v:=by
  match vs,hc,h with
  | [x],hc,h=>exact ⟨RelCs.moved hσ hst (hc x zzl) h.1,h.2⟩
  | [],hc,h=>obtain ⟨us,hv,hr⟩:=h;exact ⟨us,hv,RelVals.moved hσ hst hc hr⟩
  | x::y::r,hc,h=>obtain ⟨us,hv,hr⟩:=h;exact ⟨us,hv,RelVals.moved hσ hst hc hr⟩
def qO (a:Act) (P:Program) (n0:Nz) (β:Nat→Option Nat) (σ:Nat→Option (Nat×Nat)) (s:St0 E N) (w:World) (new:Nat→Prop) (wr:Wr (std E N)) (vs:List (Val (std E N))):Ending→World→Prop
 | .returned v,w'=>∃ σ',Mem P n0 β σ' (s.apply wr) w'∧Ext P new β σ s w β σ' (s.apply wr) w'∧Tidy a new s (s.apply wr)∧RelAV P n0 β σ' (s.apply wr) w' (Jg vs) v
 | _,_=>False
theorem tM (hn0 : n0.n ≤ w.heap.size) (m : Mem P n0 β σ s w) (hkp : Kept P β σ s w) {ci : CI} (hv : Iz P E N ci) {fn : Func} (hfn : P.funcs[ci.f]? = some fn) {args : List (AV (std E N))} {vals : List Value} {ls : List AR} {fr : List (Nat × Option (HEnt (std E N)))} {u : List Nat} {k k' : Nat}
    (hr:RelArgs P n0 β σ s w args vals) (ha:HB P fn.params.toList args=true) (hf:H9 args=some ci.fns) (hnc:(ci.nw||RB args)=true) (hl:RM.run s (LH (O:=std E N) P ci.gives [] args) k=.ok ((ls,fr,u),k')) (hgiv:X6 ci.gives u fr=true)
    {rs:List PV} (he:E ci.f ci.fns (ls.map Leaf.pv)=some rs) {id:Nat} {vs:List (Val (std E N))} {nh:List (Nat×HEnt (std E N))} (hb:BU (O:=std E N) P ci.ow ci.nw rs 0 id fn.resultTypes.toList=some (vs,nh))
    (hid:∀ n,id≤n→n<id+nh.length→Fresh a s n) {wr:Wr (std E N)} (ht0:wr.ts=[]) (hwb:wr.bs=[])
    (hwr:wr.hs=(match ci.nw with | true=>[] | false=>fr)++(u.map (fun n=>(n,none))++nh.map fun (n,h)=>(n,some h))) :
    Calls P ci.f vals.toArray w (qO a P n0 β σ s w (fun n=>id≤n∧n<id+nh.length) wr vs):=by
  obtain ⟨frOK,vs0,nhc,ids,a1,a2,a3,a4,a5,a6,a7,a8⟩:=SR m hr ha hf hl 1;have hgv:=hgiv;unfold X6 at hgv;rw [zzj] at hgv;have hfru:=Y9 hgv.1
  let sk:=s.apply ({ hs:=fr }:Wr (std E N))
  have subk:Sub s sk:=frOK.sub rfl rfl
  let U:Nat→Prop:=fun b=>(¬ InM β σ sk b∧Old n0 false b)∨(∃ i cap h,i∈u∧s.getH i=some h∧h.frozen=false∧σ i=some (b,cap))∨(ci.nw=true∧∃ n e,s.getB n=some e∧β n=some b)
  let n0c:Nz:=⟨w.heap.size,U⟩
  let σc:Nat→Option (Nat×Nat):=fun n=>match ids[n - 1]? with
    | some (some i)=>σ i
    | _=>none
  have rowc:=a2.row;have gH0:∀ n,(AM nhc).getH n=AH nhc n:=fun n=>rfl
  have gB0:∀ n,(AM nhc).getB n=none:=fun n=>rfl
  have find:∀ n h,(AM nhc).getH n=some h→∃ i o,n=1+i∧ids[i]?=some o∧oA P s h o∧h.frozen=false∧σc n=o.bind σ:=fun n h hh=>by
    obtain ⟨i,o,h1,h2,h3,h4⟩:=a2.find (rowc.get hh);refine ⟨i,o,h1,h2,h3,h4,?_⟩;have:n - 1=i:=by omega
    simp only [σc,this,h2];cases o<;>rfl
  have inM0:∀ b,InM noB σc (AM nhc) b→∃ i cap h,i∈u∧s.getH i=some h∧h.frozen=false∧σ i=some (b,cap):=fun b hb=>by
    rcases hb with ⟨n,e,h1,h2⟩ | ⟨n,h,cap,h1,h2,h3⟩
    · rw [gB0] at h1;cases h1
    · obtain ⟨i,o,e1,e2,e3,e4,e5⟩:=find n h h1;rw [e5] at h3;cases o with
      | none=>cases h3
      | some x =>
        obtain ⟨h0,q1,q2,q3,q4,q5⟩:=e3;exact ⟨x,cap,h0,(a5 x (List.mem_of_getElem? e2)).1,q1,q4,h3⟩
  have inMs:∀ b,InM noB σc (AM nhc) b→InM β σ s b:=fun b hb=>by
    obtain ⟨i,cap,h,_,h1,h2,h3⟩:=inM0 b hb;exact .inr ⟨i,h,cap,h1,h2,h3⟩
  have inMk:∀ b,InM noB σc (AM nhc) b→InM β σ sk b:=fun b hb=>by
    obtain ⟨i,cap,h,h0,h1,h2,h3⟩:=inM0 b hb;refine .inr ⟨i,h,cap,?_,h2,h3⟩;show AH (BA s.hp fr) i=some h;rw [DY (fun hm=>by
      obtain ⟨x,hx,e⟩:=List.mem_map.1 hm;exact hfru x hx (e▸h0))]
    exact h1
  have stc:∀ nw b,StB n0 β σ s nw b→StB n0c noB σc (AM nhc) false b:=fun nw b hb =>
    ⟨fun hm=>hb.1 (inMs b hm),⟨fun e=>(by cases e),.inr (.inl ⟨fun hm=>hb.1 (subk.inM hm),hb.2.mono (fun e=>(by cases e))⟩)⟩⟩
  have m0:Mem P n0c noB σc (AM nhc) w:=by
    refine ⟨fun b e h=>(by rw [gB0] at h;cases h),fun n h hh=>?_,fun b b' e e' blk h=>(by rw [gB0] at h;cases h),fun n n' h h' blk cap cap' hh hh' h1 h2=>?_,fun b e i h blk cap hb=>(by rw [gB0] at hb;cases hb)⟩
    · obtain ⟨i,o,e1,e2,e3,e4,e5⟩:=find n h hh;have hnw:=a7 (n,h) (rowc.get hh);cases o with
      | none =>
        obtain ⟨q1,t,ts,q2,q3⟩:=e3;exact .inl ⟨t,ts,q2,q3,by rw [q1];simp,.inl ⟨by rw [e5];rfl,q1⟩⟩
      | some x =>
        obtain ⟨h0,q1,q2,q3,q4,q5⟩:=e3;have hnw':h.nw=false:=hnw;refine (m.H x h0 q1).view q2 q3 (by rw [e5];rfl) (fun blk cap hs ho=>?_) (fun b hb=>by rw [hnw'];exact stc _ b hb);rw [hnw'];exact ⟨fun e=>by (cases e),.inr (.inr (.inl ⟨x,cap,h0,(a5 x (List.mem_of_getElem? e2)).1,q1,q4,hs⟩))⟩
    · obtain ⟨i,o,e1,e2,e3,e4,e5⟩:=find n h hh;obtain ⟨i',o',e1',e2',e3',e4',e5'⟩:=find n' h' hh';rw [e5] at h1;rw [e5'] at h2;cases o with
      | none=>cases h1
      | some x=>cases o' with
        | none=>cases h2
        | some x' =>
          obtain ⟨h0,q1,_⟩:=e3;obtain ⟨h0',q1',_⟩:=e3';have:=m.uH x x' h0 h0' blk cap cap' q1 q1' h1 h2;subst this;rw [e1,e1',Sr a6 e2 e2']
  have wired:Wired σ σc (AM nhc) 1 ids nhc:=VN (fun i o p h1 h2=>by
    have h3:=rowc.idx h2;refine ⟨?_,?_⟩
    · have:1+i - 1=i:=by omega
      simp only [σc,this,h1];cases o<;>rfl
    · rw [gH0,← h3];exact rowc.has (List.mem_of_getElem? h2))
  have rargs:=a8 sk n0c σc (AM nhc) subk (frOK.frz rfl) (fun b hb =>
    ⟨fun hm=>hb.1 (inMk b hm),⟨fun e=>(by cases e),.inr (.inl ⟨hb.1,hb.2⟩)⟩⟩) (fun hn b e blk hb hbl=>⟨fun hm=>by
      obtain ⟨i,cap,h,h0,h1,h2,h3⟩:=inM0 blk hm;exact m.uX b e i h blk cap hb h1 hbl h3,⟨fun e=>(by cases e),.inr (.inr (.inr ⟨by rw [hn,Bool.or_false] at hnc;exact hnc,b,e,hb,hbl⟩))⟩⟩) wired
  have hlsl:(ls.map Leaf.pv).map PV.leaf=ls:=by
    rw [List.map_map]
    conv=>rhs;rw [← List.map_id ls]
    exact List.map_congr_left (fun x _=>Leaf.leaf_pv x)
  have hnil:ct ci.gives=true→∀ q,σc q=none:=fun hn q=>by
    have hu:u=[]:=by
      have:=hgv.2;rw [hn] at this;cases u with
      | nil=>rfl
      | cons a b=>cases this
    show (match ids[q - 1]? with | some (some i)=>σ i | _=>none)=none
    split
    · rename_i i hi;have:=(a5 i (List.mem_of_getElem? hi)).1;rw [hu] at this;cases this
    · rfl
  have hcall:=hv fn hfn (ls.map Leaf.pv) rs he vs0 nhc (by rw [hlsl];exact a1) n0c σc w vals rfl m0 rargs hnil (fun g hg=>⟨(hkp g hg).1,fun hm=>(hkp g hg).2 (inMs g hm)⟩);refine Calls.mono hcall (fun e w' hret=>?_);cases e with
  | panicked c=>exact hret
  | outgrown=>exact hret
  | returned v =>
    obtain ⟨r1,r2,r3,r4,r5,r6⟩:=hret;obtain ⟨σ1,vs',nh',r7,r8,r9,r10⟩:=r6 id;rw [hb] at r7;cases r7;obtain ⟨row1,okh,okc⟩:=Q1 hb
    let frx:=match ci.nw with | true=>[] | false=>fr
    let base:=s.apply ({ hs:=frx }:Wr (std E N))
    let s2:=s.apply wr
    let σ2:Nat→Option (Nat×Nat):=fun n=>if id≤n∧n<id+nh.length then σ1 n else σ n
    have frxOK:FrOK s frx:=by
      show FrOK s (match ci.nw with | true=>[] | false=>fr);cases ci.nw
      · exact frOK
      · exact fun n v hm=>by simp at hm
    have gB:=fun n=>State.getB_apply0 s wr hwb n
    have gT:=fun n=>State.getT_apply0 s wr ht0 n
    have hs2:s2.hp=BA (BA (BA s.hp frx) (u.map fun n=>(n,none))) (nh.map fun (n,h)=>(n,some h)):=by
      show BA s.hp wr.hs=_;rw [hwr,EA,EA]
    have g1:∀ n,id≤n→n<id+nh.length→s2.getH n=AH nh n:=fun n h1 h2=>by
      obtain ⟨h,hh⟩:=row1.at h1 h2;rw [row1.has hh];show AH s2.hp n=_;rw [hs2];refine Tb (fun x hx e=>?_) ⟨(n,some h),List.mem_map.2 ⟨(n,h),hh,rfl⟩,rfl⟩;obtain ⟨y,hy,rfl⟩:=List.mem_map.1 hx;have h3:=row1.has (n:=y.1) (h:=y.2) hy;simp only at e;rw [e,row1.has hh] at h3;cases h3;rfl
    have g2:∀ n,¬ (id≤n∧n<id+nh.length)→s2.getH n=if n∈u then none else base.getH n:=fun n hn=>by
      show AH s2.hp n=_;rw [hs2,DY (fun hm=>hn (by
        obtain ⟨x,hx,rfl⟩:=List.mem_map.1 hm;obtain ⟨y,hy,rfl⟩:=List.mem_map.1 hx;exact row1.mem y hy))]
      split
      · rename_i hu;exact Tb (fun x hx e=>by obtain ⟨y,hy,rfl⟩:=List.mem_map.1 hx;rfl) ⟨(n,none),List.mem_map.2 ⟨n,hu,rfl⟩,rfl⟩
      · rename_i hu;rw [DY (fun hm=>hu (by
          obtain ⟨x,hx,rfl⟩:=List.mem_map.1 hm;obtain ⟨y,hy,rfl⟩:=List.mem_map.1 hx;exact hy))]
        rfl
    have old:∀ n h',¬ (id≤n∧n<id+nh.length)→s2.getH n=some h'→n∉u∧base.getH n=some h'∧∃ h0,s.getH n=some h0∧(h'=h0∨h'={ h0 with frozen:=true,dirty:=true }):=fun n h' hn hh=>by
      rw [g2 n hn] at hh
      split at hh
      · cases hh
      · rename_i hu;exact ⟨hu,hh,frxOK.get rfl n h' hh⟩
    have nogiveH:∀ n h0 b cap,n∉u→s.getH n=some h0→σ n=some (b,cap)→¬ InM noB σc (AM nhc) b:=fun n h0 b cap hu hh hs hm=>by
      obtain ⟨i,cap',h,q1,q2,q3,q4⟩:=inM0 b hm;exact hu (m.uH n i h0 h b cap cap' hh q2 hs q4▸q1)
    have nogiveB:∀ n e b,s.getB n=some e→β n=some b→¬ InM noB σc (AM nhc) b:=fun n e b hh hs hm=>by
      obtain ⟨i,cap',h,q1,q2,q3,q4⟩:=inM0 b hm;exact m.uX n e i h b cap' hh q2 hs q4
    have in1:∀ n h b cap,id≤n∧n<id+nh.length→s2.getH n=some h→σ1 n=some (b,cap)→InM noB σ1 (AM nh) b:=fun n h b cap hn hh hs=>by
      rw [g1 n hn.1 hn.2] at hh;exact .inr ⟨n,h,cap,hh,(okh _ (row1.get hh)).2.1,hs⟩
    have s2old:∀ n,¬ (id≤n∧n<id+nh.length)→σ2 n=σ n:=fun n hn=>by simp only [σ2,if_neg hn]
    have s2new:∀ n,id≤n∧n<id+nh.length→σ2 n=σ1 n:=fun n hn=>by simp only [σ2,if_pos hn]
    have x:Ext P (fun n=>id≤n∧n<id+nh.length) β σ s w β σ2 s2 w':=by
      refine ⟨r1,r2,r3,r4,fun b hlt hm=>r5 b hlt (fun h=>hm (inMs b h)),fun b hb=>?_,fun n e hh hn=>?_,fun n h' hh hn=>?_⟩
      · rcases hb with ⟨n,e,h1,h2⟩ | ⟨n,h,cap,h1,h2,h3⟩
        · rw [gB] at h1;exact .inl (.inl ⟨n,e,h1,h2⟩)
        · by_cases hn:id≤n∧n<id+nh.length
          · rw [s2new n hn] at h3;exact (r10 b (in1 n h b cap hn h1 h3)).imp (inMs b) (fun h=>h)
          · rw [s2old n hn] at h3;obtain ⟨_,_,h0,q1,q2⟩:=old n h hn h1
            rcases q2 with rfl | rfl
            · exact .inl (.inr ⟨n,h,cap,q1,h2,h3⟩)
            · cases h2
      · rw [gB] at hh;exact ⟨⟨e,hh⟩,rfl⟩
      · obtain ⟨_,_,h0,q1,q2⟩:=old n h' hn hh;refine ⟨h0,q1,s2old n hn,?_⟩
        rcases q2 with rfl | rfl<;>exact ⟨rfl,fun _=>rfl⟩
    have stR:∀ b,StB n0c noB σ1 (AM nh) ci.nw b→StB n0 β σ2 s2 ci.nw b:=fun b hb=>by
      have hge:(¬ w.heap.size≤b)→ci.nw=false:=fun h=>by
        cases hnw:ci.nw with
        | false=>rfl
        | true=>exact (h (hb.2.1 hnw)).elim
      refine ⟨fun hm=>?_,⟨fun e=>Nat.le_trans hn0 (hb.2.1 e),?_⟩⟩
      · rcases hm with ⟨n,e,h1,h2⟩ | ⟨n,h,cap,h1,h2,h3⟩
        · rw [gB] at h1;have hlt:=m.ltB h1 h2
          rcases hb.2.2 with h | ⟨h,_⟩ | ⟨i,cap',h,q1,q2,q3,q4⟩ | ⟨hnw,_⟩
          · have:w.heap.size≤b:=h;omega
          · exact h (.inl ⟨n,e,by show (s.apply _).getB n=_;rw [State.getB_apply0 s _ rfl];exact h1,h2⟩)
          · exact m.uX n e i h b cap' h1 q2 h2 q4
          · have:w.heap.size≤b:=hb.2.1 hnw;omega
        · by_cases hn:id≤n∧n<id+nh.length
          · rw [s2new n hn] at h3;exact hb.1 (in1 n h b cap hn h1 h3)
          · rw [s2old n hn] at h3;obtain ⟨hu,hbase,h0,q1,q2⟩:=old n h hn h1;have hlt:=m.ltH q1 h3
            rcases hb.2.2 with h | ⟨h,_⟩ | ⟨i,cap',hi,p1,p2,p3,p4⟩ | ⟨hnw,_⟩
            · have:w.heap.size≤b:=h;omega
            · have hnw:=hge (by omega);refine h (.inr ⟨n,_,cap,?_,h2,h3⟩);have:base=sk:=by simp only [base,frx,hnw];rfl
              rw [← this];exact hbase
            · exact hu (m.uH n i h0 hi b cap cap' q1 p2 h3 p4▸p1)
            · have:w.heap.size≤b:=hb.2.1 hnw;omega
      · rcases hb.2.2 with h | ⟨_,h⟩ | ⟨i,cap',hi,p1,p2,p3,p4⟩ | ⟨hnw,_⟩
        · exact .inl (Nat.le_trans hn0 h)
        · exact h.2
        · rcases m.H i hi p2 with ⟨t,ts,_,_,_,hm⟩ | hM
          case inr=>exact (hM.blk p4).2.2
          rcases hm with ⟨h1,_⟩ | ⟨blk,cap,cells,el,h1,_,_,_,_,ho,_⟩
          · rw [h1] at p4;cases p4
          · rw [h1] at p4;cases p4;exact ho.2
        · exact .inl (Nat.le_trans hn0 (hb.2.1 hnw))
    have newold:∀ n h b cap,id≤n∧n<id+nh.length→s2.getH n=some h→σ1 n=some (b,cap)→(∀ n' h' cap',¬ (id≤n'∧n'<id+nh.length)→s2.getH n'=some h'→σ n'≠some (b,cap'))∧(∀ n' e,s.getB n'=some e→β n'≠some b):=fun n h b cap hn hh hs=>by
      have:=r10 b (in1 n h b cap hn hh hs);refine ⟨fun n' h' cap' hn' hh' hs'=>?_,fun n' e hh' hs'=>?_⟩
      · obtain ⟨hu,_,h0,q1,_⟩:=old n' h' hn' hh'
        rcases this with h | h
        · exact nogiveH n' h0 b cap' hu q1 hs' h
        · have:=m.ltH q1 hs';omega
      · rcases this with h | h
        · exact nogiveB n' e b hh' hs' h
        · have:=m.ltB hh' hs';omega
    have tidy:Tidy a (fun n=>id≤n∧n<id+nh.length) s s2:=by
      refine ⟨fun n hf hn=>⟨fun q tv hq=>?_,fun q e hq=>?_,fun q h hq=>?_⟩,fun n e hh hd=>?_,fun n h hh hd=>?_⟩
      · rw [gT] at hq;exact hf.t q tv hq
      · rw [gB] at hq;exact hf.b q e hq
      · by_cases hr:id≤q∧q<id+nh.length
        · exact fun e=>hn (e▸hr)
        · obtain ⟨_,_,h0,q1,_⟩:=old q h hr hq;exact hf.h q h0 q1
      · rw [gB] at hh;exact hh
      · by_cases hr:id≤n∧n<id+nh.length
        · rw [g1 n hr.1 hr.2] at hh;have:=(okh _ (row1.get hh)).2.2;simp only at this;rw [this] at hd;cases hd
        · obtain ⟨_,_,h0,q1,q2⟩:=old n h hr hh
          rcases q2 with rfl | rfl
          · exact q1
          · cases hd
    refine ⟨σ2,⟨fun n e hh=>?_,fun n h hh=>?_,fun b b' e e' blk h h'=>?_,fun n n' h h' blk cap cap' hh hh' h1 h2=>?_,fun b e i h blk cap hb' hi h1 h2=>?_⟩,x,tidy,?_⟩
    · rw [gB] at hh;obtain ⟨blk,cells,el,q1,q2,q3,q4⟩:=m.B n e hh;exact ⟨blk,cells,el,q1,(r5 blk (A9 q2) (nogiveB n e blk hh q1)).trans q2,x.relCs (fun k hk hn=>((hid k hn.1 hn.2).b n e hh).2 hk) q3,q4⟩
    · by_cases hn:id≤n∧n<id+nh.length
      · have hh':=hh;rw [show (s.apply wr).getH n=AH nh n from g1 n hn.1 hn.2] at hh';have hnw:h.nw=ci.nw:=(okh _ (row1.get hh')).1;refine (r8.H n h hh').view rfl rfl (s2new n hn) (fun blk cap hs ho=>?_) (fun b hb=>by rw [hnw] at hb ⊢;exact stR b hb);refine ⟨fun e=>Nat.le_trans hn0 (ho.1 e),?_⟩
        rcases ho.2 with h | ⟨_,h⟩ | ⟨i,cap',hi,p1,p2,p3,p4⟩ | ⟨hcn,_⟩
        · exact .inl (Nat.le_trans hn0 h)
        · exact h.2
        · rcases m.H i hi p2 with ⟨t,ts,_,_,_,hm⟩ | hM
          case inr=>exact (hM.blk p4).2.2
          rcases hm with ⟨h1,_⟩ | ⟨blk',cap,cells,el,h1,_,_,_,_,ho,_⟩
          · rw [h1] at p4;cases p4
          · rw [h1] at p4;cases p4;exact ho.2
        · exact .inl (Nat.le_trans hn0 (ho.1 (hnw.trans hcn)))
      · obtain ⟨hu,_,h0,q1,q2⟩:=old n h hn hh;have key:RelH P n0 β σ2 s2 w' n h0:=by
          rcases m.H n h0 q1 with ⟨t,ts,ht,hts,hrl,hm⟩ | hM
          case inr=>exact .inr (hM.view rfl rfl (s2old n hn) (fun blk cap hs=>r5 blk (m.ltH q1 hs) (nogiveH n h0 blk cap hu q1 hs)) (fun _ _ _ ho=>ho))
          refine .inl ⟨t,ts,ht,hts,hrl,?_⟩
          rcases hm with ⟨p1,p2⟩ | ⟨blk,cap,cells,el,p1,p2,p3,p4,p5,p6,v',p7,p8⟩
          · exact .inl ⟨by rw [s2old n hn];exact p1,p2⟩
          · exact .inr ⟨blk,cap,cells,el,by rw [s2old n hn];exact p1,(r5 blk (A9 p2) (nogiveH n h0 blk cap hu q1 p1)).trans p2,p3,p4,p5,p6,v',p7,fun i j t' hi hj=>x.rep (p8 i j t' hi hj)⟩
        rcases q2 with rfl | rfl
        · exact key
        · exact key.view (q:=n) rfl rfl rfl (fun _ _ _ h=>h) (fun b h=>h)
    · rw [gB] at h h';exact m.uB b b' e e' blk h h'
    · by_cases hn:id≤n∧n<id+nh.length<;>by_cases hn':id≤n'∧n'<id+nh.length
      · rw [s2new n hn] at h1;rw [s2new n' hn'] at h2;rw [show (s.apply wr).getH n=AH nh n from g1 n hn.1 hn.2] at hh;rw [show (s.apply wr).getH n'=AH nh n' from g1 n' hn'.1 hn'.2] at hh';exact r8.uH n n' h h' blk cap cap' hh hh' h1 h2
      · rw [s2new n hn] at h1;rw [s2old n' hn'] at h2;exact ((newold n h blk cap hn hh h1).1 n' h' cap' hn' hh' h2).elim
      · rw [s2old n hn] at h1;rw [s2new n' hn'] at h2;exact ((newold n' h' blk cap' hn' hh' h2).1 n h cap hn hh h1).elim
      · rw [s2old n hn] at h1;rw [s2old n' hn'] at h2;obtain ⟨_,_,h0,q1,_⟩:=old n h hn hh;obtain ⟨_,_,h0',q1',_⟩:=old n' h' hn' hh';exact m.uH n n' h0 h0' blk cap cap' q1 q1' h1 h2
    · rw [gB] at hb'
      by_cases hn:id≤i∧i<id+nh.length
      · rw [s2new i hn] at h2;exact (newold i h blk cap hn hi h2).2 b e hb' h1
      · rw [s2old i hn] at h2;obtain ⟨_,_,h0,q1,_⟩:=old i h hn hi;exact m.uX b e i h0 blk cap hb' q1 h1 h2
    · exact RelAV.moved (fun n h1 h2=>⟨s2new n ⟨h1,h2⟩,g1 n h1 h2⟩) stR okc r9
end
section
variable {E:Env} {N:Nat} {P:Program} {n0 n0':Nz} {nt:Nat} {β β':Nat→Option Nat} {σ σ':Nat→Option (Nat×Nat)} {s s':St0 E N} {a:Act} {w w':World}
def GI (s:St0 E N) (done:List Nat):Prop:=∀ n tv,s.getT n=some tv→∀ g∈tv.gs,g.1∈done
def After (P:Program) (n0:Nz) (nt:Nat) (new:Nat→Prop) (β:Nat→Option Nat) (σ:Nat→Option (Nat×Nat)) (s:St0 E N) (a:Act) (w:World) (dst:Option Nat) (wr:Wr (std E N)) (a':Act) (w':World):Prop :=
  ∃ β' σ',Sim P n0 nt β' σ' (s.apply wr) a' w'∧Ext P new β σ s w β' σ' (s.apply wr) w'∧(∀ n,Fresh a s n→¬ new n→Fresh a' (s.apply wr) n) ∧
    (∀ n e,(s.apply wr).getB n=some e→e.dirty=false→s.getB n=some e)∧(∀ n e,(s.apply wr).getH n=some e→e.dirty=false→s.getH n=some e) ∧
    a'.defers=a.defers∧∀ n,dst≠some n→a'.tmps.getD n undef=a.tmps.getD n undef
theorem Eg {a:Act} {d n:Nat} {v:Value} (h:n≠d):(a.put (some d) v).tmps.getD n undef=a.tmps.getD n undef:=by
 simp only [Act.put];rw [Array.getD_eq_getD_getElem?,Array.getD_eq_getD_getElem?,Array.getElem?_setIfInBounds];rw [if_neg (fun e=>h e.symm)]
theorem LE {a:Act} {d:Nat} {v:Value} (h:d<a.tmps.size):(a.put (some d) v).tmps.getD d undef=v:=by
 simp only [Act.put];rw [Array.getD_eq_getD_getElem?,Array.getElem?_setIfInBounds];simp [h]
theorem F3 {a:Act} {d:Nat} {v:Value} {gs:List (Nat×Bool)} (h:∀ g∈gs,g.1≠d):Facts (a.put (some d) v) gs↔Facts a gs:=by
 constructor
 ·intro hf n b hm;rw [← hf n b hm,Eg (h _ hm)]
 ·intro hf n b hm;rw [Eg (h _ hm)];exact hf n b hm
theorem kJ {n:Nat} (h:¬ n<DG):s.getT n=none:=by
 unfold State.getT Ci;cases hb:Nat.blt n DG with
 | false=>rfl
 | true=>exact (h (Bd.1 hb)).elim
theorem JQ (hs : Sim P n0 nt β σ s a w) {done : List Nat} (gi : GI s done) {d : Nat} (hd : d ∉ done) (hdn : d < nt) {new : Nat → Prop} (hnew : ∀ n, new n → Fresh a s n)
    {ctx:List (Nat×Bool)} (hctx:∀ g∈ctx,g.1∈done) {av:AV (std E N)} {bs:List (Nat×Option (BEnt (std E N)))} {hh:List (Nat×Option (HEnt (std E N)))} {z:Value}
    (m:Mem P n0 β' σ' (s.apply { bs:=bs,hs:=hh }) w') (x:Ext P new β σ s w β' σ' (s.apply { bs:=bs,hs:=hh }) w') (t:Tidy a new s (s.apply { bs:=bs,hs:=hh }))
    (hz:(Facts a ctx∧RelAV P n0 β' σ' (s.apply { bs:=bs,hs:=hh }) w' av z∧∀ n,Fresh a s n→¬ new n→n∉av.names)∨(¬ Facts a ctx∧z=undef)) :
    After P n0 nt new β σ s a w (some d) { ts:=[(d,some ⟨ctx,av⟩)],bs:=bs,hs:=hh } (a.put (some d) z) w':=by
  let wr:Wr (std E N):={ ts:=[(d,some ⟨ctx,av⟩)],bs:=bs,hs:=hh }
  have gT:=fun n=>State.getT_apply1 s d (some ⟨ctx,av⟩) wr rfl n
  have sub:Sub (s.apply { bs:=bs,hs:=hh }) (s.apply wr):=Sub.of_same (fun _=>rfl) (fun _=>rfl);have x2:=(x.trans (sub.ext P (fun _=>False) β' σ' w')).weaken (fun n (h:new n∨False)=>h.elim (fun h=>h) (fun h=>h.elim));have ne:∀ {g:Nat×Bool},g.1∈done→g.1≠d:=fun hg e=>hd (e▸hg)
  have hsz:(a.put (some d) z).tmps.size=nt:=by simp [Act.put,hs.size]
  refine ⟨β',σ',⟨Nat.le_trans hs.n0le x.size,hsz,fun n tv hn=>?_,sub.mem m,(hs.kept.ext x).ext (sub.ext P (fun _=>False) β' σ' w')⟩,x2,fun n hf hn=>⟨fun k tv hk hg=>?_,fun k e he=>(t.fresh n hf hn).b k e he,fun k e he=>(t.fresh n hf hn).h k e he⟩,t.cleanB,t.cleanH,rfl,fun n hn=>Eg (fun e=>hn (by rw [e]))⟩
  · rw [gT] at hn
    split at hn
    · rename_i he;cases hn;rw [he.1,LE (by rw [hs.size];exact hdn)]
      rcases hz with ⟨h1,h2,_⟩ | ⟨h1,h2⟩
      · exact .inl ⟨(F3 (fun g hg=>ne (hctx g hg))).2 h1,(sub.ext P (fun _=>False) β' σ' w').relAV (fun _ _ h=>h) h2⟩
      · exact .inr ⟨fun h=>h1 ((F3 (fun g hg=>ne (hctx g hg))).1 h),h2⟩
    · rename_i he;have hnd:n≠d:=fun e=>by
        by_cases hb:d<DG
        · exact he ⟨e,hb⟩
        · rw [e,kJ hb] at hn;cases hn
      rw [Eg hnd];have hg:∀ g∈tv.gs,g.1≠d:=fun g hg=>ne (gi n tv hn g hg)
      rcases hs.T n tv hn with ⟨h1,h2⟩ | ⟨h1,h2⟩
      · exact .inl ⟨(F3 hg).2 h1,x2.relAV (fun k hk hnw=>(hnew k hnw).t n tv hn h1 hk) h2⟩
      · exact .inr ⟨fun h=>h1 ((F3 hg).1 h),h2⟩
  · rw [gT] at hk
    split at hk
    · rename_i he;cases hk;have hg':=(F3 (fun g hg=>ne (hctx g hg))).1 hg
      rcases hz with ⟨_,_,h3⟩ | ⟨h1,_⟩
      · exact h3 n hf hn
      · exact (h1 hg').elim
    · exact hf.t k tv hk ((F3 (fun g hg=>ne (gi k tv hk g hg))).1 hg)
theorem GI.put {done:List Nat} (gi:GI s done) {d:Nat} {ctx:List (Nat×Bool)} (hctx:∀ g∈ctx,g.1∈done) {av:AV (std E N)} {wr:Wr (std E N)} (hw:wr.ts=[(d,some ⟨ctx,av⟩)]):GI (s.apply wr) (d::done):=by
 intro n tv hn g hg;rw [State.getT_apply1 s d _ wr hw] at hn
 split at hn
 ·cases hn;exact zzm _ (hctx g hg)
 ·exact zzm _ (gi n tv hn g hg)
theorem bL (hs : Sim P n0 nt β σ s a w) {new : Nat → Prop} (hnew : ∀ n, new n → Fresh a s n) {wr : Wr (std E N)} (ht0 : wr.ts = [])
    (m:Mem P n0 β' σ' (s.apply wr) w') (x:Ext P new β σ s w β' σ' (s.apply wr) w') (t:Tidy a new s (s.apply wr)):After P n0 nt new β σ s a w none wr a w':=by
  refine ⟨β',σ',⟨Nat.le_trans hs.n0le x.size,hs.size,fun n tv hn=>?_,m,hs.kept.ext x⟩,x,t.fresh,t.cleanB,t.cleanH,rfl,fun _ _=>rfl⟩;rw [State.getT_apply0 s wr ht0] at hn
  rcases hs.T n tv hn with ⟨h1,h2⟩ | ⟨h1,h2⟩
  · exact .inl ⟨h1,x.relAV (fun k hk hnw=>(hnew k hnw).t n tv hn h1 hk) h2⟩
  · exact .inr ⟨h1,h2⟩
theorem ig (hs : Sim P n0 nt β σ s a w) {done : List Nat} (gi : GI s done) {ops : Array Oper} {o : Oper} {ctx : List (Nat × Bool)} {k k' : Nat} (h : RM.run s (gW (O := std E N) ops.toList o) k = .ok (ctx, k'))
    (hg:∀ j want d,o.guard=some (j,want)→(ops[j]?).bind (·.dst)=some d→d∈done) :
    (Region.wanted o (yielded ops a.tmps)=true↔Facts a ctx)∧(∀ g∈ctx,g.1∈done)∧(o.guard=none→ctx=[]):=by
  unfold gW at h
  split at h
  · rename_i hn;cases zzc h;exact ⟨⟨fun _ n b hm=>by simp at hm,fun _=>by simp [Region.wanted,hn]⟩,fun g hm=>by simp at hm,fun _=>rfl⟩
  · rename_i j want hn
    split at h
    · rename_i d hd;obtain ⟨k1,h⟩:=zze h;cases ht:s.getT d with
      | none=>rw [ht] at h;exact (zzb h).elim
      | some tv =>
        rw [ht] at h;cases zzc h;have hd':(ops[j]?).bind (·.dst)=some d:=by rw [← Array.getElem?_toList];exact hd
        have hdd:=hg j want d hn hd';have hy:yielded ops a.tmps j=some want↔a.tmps.getD d undef=.bool want:=by
          unfold yielded;rw [hd',Option.bind_some,Array.getD_eq_getD_getElem?];cases hx:a.tmps[d]? with
          | none=>simp [undef]
          | some v=>cases v<;>simp
        have hw:Region.wanted o (yielded ops a.tmps)=true↔a.tmps.getD d undef=.bool want:=by
          rw [← hy];simp [Region.wanted,hn]
        refine ⟨⟨fun h=>?_,fun hf=>hw.2 (hf d want zzl)⟩,fun g hm=>?_,fun h=>by rw [hn] at h;cases h⟩
        · have hv:=hw.1 h
          rcases hs.T d tv ht with ⟨h1,_⟩ | ⟨_,h2⟩
          · intro n b hm
            rcases List.mem_cons.1 hm with e | hm
            · cases e;exact hv
            · exact h1 n b hm
          · rw [hv] at h2;simp [undef] at h2
        · rcases List.mem_cons.1 hm with rfl | hm
          · exact hdd
          · exact gi d tv ht g hm
    · exact (zzb h).elim
theorem IU:∀ {gs:List (Nat×Bool)} {m m':Nat},RM.run s (bn (O:=std E N) gs) m=.ok (none,m')→gs=[]
 | [],_,_,_=>rfl
 | (n,want)::r,m,m',h=>by
  obtain ⟨m1,h⟩:=zze h
  split at h
  ·obtain ⟨g,m2,h1,h2⟩:=zza h;have:=zzc h2;cases this
  ·exact (zzb h).elim
theorem Yu:∀ {fr l:List (Nat×Option (HEnt (std E N)))} {k k':Nat},RM.run s (ZJ (O:=std E N) fr) k=.ok (l,k')→FrOK s l∧(FrOK s fr→l=fr)
 | [],l,k,k',h=>by cases zzc h;exact ⟨fun _ _ hm=>by simp at hm,fun _=>rfl⟩
 | (n,v)::r,l,k,k',h=>by
  obtain ⟨k1,h⟩:=zzf h;cases hh:s.getH n with
  | none=>rw [hh] at h;exact (zzb h).elim
  | some e =>
   rw [hh] at h;obtain ⟨l2,k2,h1,h2⟩:=zza h;cases zzc h2;obtain ⟨a1,a2⟩:=Yu h1;refine ⟨fun q v hm=>?_,fun hf=>?_⟩
   ·rcases List.mem_cons.1 hm with e1 | hm
    ·cases e1;exact ⟨e,hh,rfl⟩
    ·exact a1 q v hm
   ·obtain ⟨h0,q1,q2⟩:=hf n v zzl;rw [hh] at q1;cases q1;rw [a2 (fun q v hm=>hf q v (zzm _ hm)),q2]
end
section
variable {E:Env} {N:Nat} {P:Program} {n0:Nz} {nt:Nat} {β:Nat→Option Nat} {σ:Nat→Option (Nat×Nat)} {s s':St0 E N} {a:Act} {w w':World}
theorem Tidy.of_sub {fr:List (Nat×Option (HEnt (std E N)))} (h:PreOK s fr) {wr:Wr (std E N)} (hw:wr.hs=fr) (hb:wr.bs=[]) (ht:wr.ts=[]) (new:Nat→Prop):Tidy a new s (s.apply wr) where
 fresh n hf _:=⟨fun k tv hk=>by rw [State.getT_apply0 s wr ht] at hk;exact hf.t k tv hk,fun k e he=>by rw [State.getB_apply0 s wr hb] at he;exact hf.b k e he,fun k e he=>by
  obtain ⟨h0,q1,_⟩:=h.get hw k e he;exact hf.h k h0 q1⟩
 cleanB n e he hd:=by rw [State.getB_apply0 s wr hb] at he;exact he
 cleanH n e he hd:=by
  obtain ⟨h0,q1,q2⟩:=h.get hw n e he
  rcases q2 with rfl | rfl
  ·exact q1
  ·cases hd
theorem Tidy.weaken {new new':Nat→Prop} (t:Tidy a new s s') (h:∀ n,new n→new' n):Tidy a new' s s' :=
 ⟨fun n hf hn=>t.fresh n hf (fun k=>hn (h n k)),t.cleanB,t.cleanH⟩
end
open Go.Lib
def BufAt (w:World) (e:TypeId) (v:Value) (bs:List Value):Prop :=
  (v=.slice none 0 0∧bs=[])∨∃ g cap cur,v=.slice (some ⟨g,0,none⟩) bs.length cap∧w.heap[g]?=some (.cells cur e (0,0))∧0<cap∧bs.length≤cap∧cur.size=cap∧cur.toList.take bs.length=bs
def QK (w:World) (T e:TypeId) (b:Nat) (v:Value) (bs:List Value):Prop :=
  (∃ p,w.heap[b]?=some (.cells #[p,v] T (0,0))∧(p=.pointer none∨p=.pointer (some ⟨b,0,none⟩)))∧BufAt w e v bs
structure Rest (w w':World) (b:Nat) (g:Option Nat):Prop where
 os:w'.os=w.os
 tape:w'.tape=w.tape
 output:w'.output=w.output
 size:w.heap.size≤w'.heap.size
 block:∀ k,k<w.heap.size→k≠b→g≠some k→w'.heap[k]?=w.heap[k]?
def Qv (w:World) (v v':Value):Prop:=v'.ownBlock=v.ownBlock∨∃ g,v'.ownBlock=some g∧w.heap.size≤g
def Qw (w:World) (T e:TypeId) (b:Nat) (v:Value) (bs:List Value) (w':World):Prop :=
 ∃ v',w'.heap[b]?=some (.cells #[.pointer (some ⟨b,0,none⟩),v'] T (0,0))∧BufAt w' e v' bs∧Rest w w' b v.ownBlock∧Qv w v v'
def ri (w:World) (v:Value) (w':World):Prop :=
 w'.os=w.os∧w'.tape=w.tape∧w'.output=w.output∧w.heap.size≤w'.heap.size∧∀ k,k<w.heap.size→v.ownBlock≠some k→w'.heap[k]?=w.heap[k]?
def Qm (P:Program) (b:Bld):Prop:=match b.k with
 | 0=>∀ n v bs s w,QK w b.T b.u n v bs→bs.length+s.size≤140737488355328→Calls P b.f #[.pointer (some ⟨n,0,none⟩),.string s] w fun e w'=>e=.returned (.tuple #[.int .i64 s.size,.nilIface])∧Qw w b.T b.u n v (bs++strCells s) w'
 | 1=>∀ n v bs c w,QK w b.T b.u n v bs→bs.length+1≤140737488355328→Calls P b.f #[.pointer (some ⟨n,0,none⟩),.int .u8 c] w fun e w'=>e=.returned .nilIface∧Qw w b.T b.u n v (bs++[.int .u8 c]) w'
 | 2=>∀ n v l w,QK w b.T b.u n v (byteCells l)→l.length≤9223372036854775807→Calls P b.f #[.pointer (some ⟨n,0,none⟩)] w fun e w'=>e=.returned (.string ⟨l.toArray⟩)∧ri w v w'
 | _=>True
structure GamOK (P:Program) (E:Env) (N:Nat) (cfg:Cfg):Prop where
 ci:∀ ci∈cfg.gam,Iz P E N ci∧Iz P E N { ci with own:=false }
 bld:∀ b∈cfg.bld,Qm P b
section
variable {E:Env} {N:Nat} {P:Program} {n0:Nz} {nt:Nat} {β:Nat→Option Nat} {σ:Nat→Option (Nat×Nat)} {s s':St0 E N} {a:Act} {w w':World}
theorem ik:∀ {l:List Bld} {f:Nat} {b:Bld},aU l f=some b→b∈l∧b.f=f
 | c::l,f,b,h=>by
  simp only [aU] at h
  split at h
  ·rename_i hb;cases h;exact ⟨zzl,AD.1 hb⟩
  ·obtain ⟨h1,h2⟩:=ik h;exact ⟨zzm _ h1,h2⟩
 | [],_,_,h=>by simp [aU] at h
def Gone (s:St0 E N) (g:List (Nat×Option (HEnt (std E N)))):Prop:=g=[]∨∃ q en,g=[(q,none)]∧s.getH q=some en∧en.frozen=false
theorem Gone.get {g : List (Nat × Option (HEnt (std E N)))} (h : Gone s g) {wr : Wr (std E N)} (hw : wr.hs = g) (k : Nat) (h' : HEnt (std E N)) (hk : (s.apply wr).getH k = some h') :
    s.getH k=some h'∧∀ v,(k,v)∉g:=by
  rcases h with rfl | ⟨q,en,rfl,hq,_⟩
  · rw [State.getH_apply0 s wr hw] at hk;exact ⟨hk,fun v=>by simp⟩
  · have : (s.apply wr).getH k = if k = q then none else s.getH k := by
      unfold State.apply State.getH;simp only [hw,BA];exact BB _ _ _ _
    rw [this] at hk
    split at hk
    · cases hk
    · rename_i hne;exact ⟨hk,fun v hm=>hne (by simp at hm;exact hm.1)⟩
theorem Gone.mem {g:List (Nat×Option (HEnt (std E N)))} (h:Gone s g) {q:Nat} {v:Option (HEnt (std E N))} (hm:(q,v)∈g):∃ en,s.getH q=some en∧en.frozen=false:=by
 rcases h with rfl | ⟨q',en,rfl,hq,hf⟩
 ·simp at hm
 ·simp only [List.mem_singleton,Prod.mk.injEq] at hm;obtain ⟨rfl,_⟩:=hm;exact ⟨en,hq,hf⟩
theorem uL (m : Mem P n0 β σ s w) {id n blk : Nat} (hid : Fresh a s id) {e : BEnt (std E N)} (he : s.getB n = some e) (hb : β n = some blk) {cs' : List (AC0 E N)} {g : List (Nat × Option (HEnt (std E N)))} (hg : Gone s g) {h : HEnt (std E N)} (hd : h.dirty = true)
    {sid:Option (Nat×Nat)} (ho:w'.os=w.os) (htp:w'.tape=w.tape) (hout:w'.output=w.output) (hsize:w.heap.size≤w'.heap.size)
    (hblock:∀ k,k<w.heap.size→k≠blk→(∀ q v cap,(q,v)∈g→σ q≠some (k,cap))→w'.heap[k]?=w.heap[k]?)
    (hloc:∀ k cap,sid=some (k,cap)→(∃ q v cap0,(q,v)∈g∧σ q=some (k,cap0))∨w.heap.size≤k)
    {wr:Wr (std E N)} (ht0:wr.ts=[]) (hbs:wr.bs=[(n,some { cs:=cs',dirty:=true })]) (hhs:wr.hs=g++[(id,some h)])
    (hrB:Ext P (·=id) β σ s w β (upd σ id sid) (s.apply wr) w'→(s.apply wr).getH id=some h→nL P n0 β (upd σ id sid) (s.apply wr) w' n { cs:=cs',dirty:=true })
    (hcn:∀ k,Fresh a s k→k≠id→k∉AF cs')
    (hrH:Ext P (·=id) β σ s w β (upd σ id sid) (s.apply wr) w'→RelH P n0 β (upd σ id sid) (s.apply wr) w' id h) :
    Mem P n0 β (upd σ id sid) (s.apply wr) w'∧Ext P (·=id) β σ s w β (upd σ id sid) (s.apply wr) w'∧Tidy a (·=id) s (s.apply wr):=by
  have gB:=fun k=>State.getB_apply1 s n (some { cs:=cs',dirty:=true }) wr hbs k
  have gs:∀ k,(s.apply wr).getH k=if k=id then some h else (s.apply ({ hs:=g }:Wr (std E N))).getH k:=fun k=>by
    unfold State.apply State.getH;simp only [hhs,EA,BA];exact BB _ _ _ _
  have hget:(s.apply wr).getH id=some h:=by rw [gs,if_pos rfl]
  have fget:∀ k h',k≠id→(s.apply wr).getH k=some h'→s.getH k=some h'∧∀ v,(k,v)∉g:=fun k h' hk he=>by
    rw [gs,if_neg hk] at he;exact hg.get rfl k h' he
  have bget:∀ k e',(s.apply wr).getB k=some e'→∃ e0,s.getB k=some e0:=fun k e' h=>by
    rw [gB] at h
    by_cases hk:k=n
    · exact ⟨e,by rw [hk];exact he⟩
    · rw [if_neg hk] at h;exact ⟨e',h⟩
  have x:Ext P (·=id) β σ s w β (upd σ id sid) (s.apply wr) w':=by
    refine ⟨ho,htp,hout,hsize,fun k hk hm=>hblock k hk (fun e1=>hm (.inl ⟨n,e,he,e1▸hb⟩)) (fun q v cap hq hs=>?_),fun k hk=>?_,fun k e' hk hn=>⟨bget k e' hk,rfl⟩,fun k h' hk hn=>?_⟩
    · obtain ⟨en,h1,h2⟩:=hg.mem hq;exact hm (.inr ⟨q,en,cap,h1,h2,hs⟩)
    · rcases hk with ⟨k',e',h1,h2⟩ | ⟨k',h',cap,h1,h2,h3⟩
      · obtain ⟨e0,h0⟩:=bget k' e' h1;exact .inl (.inl ⟨k',e0,h0,h2⟩)
      · by_cases hki:k'=id
        · rw [hki,A3] at h3
          rcases hloc k cap h3 with ⟨q,v,cap0,hq,hs⟩ | h4
          · obtain ⟨en,h4,h5⟩:=hg.mem hq;exact .inl (.inr ⟨q,en,cap0,h4,h5,hs⟩)
          · exact .inr h4
        · rw [Az _ _ hki] at h3;exact .inl (.inr ⟨k',h',cap,(fget k' h' hki h1).1,h2,h3⟩)
    · exact ⟨h',(fget k h' hn hk).1,Az _ _ hn,rfl,fun _=>rfl⟩
  refine ⟨ZX (id:=id) m x (fun k e' hk=>?_) (fun k h' hk hh=>?_) (fun k h' b2 cap hk hh hs=>?_) (fun h' hh=>?_) (fun b2 cap hs=>?_),x,⟨fun k hf hk=>⟨fun j tv hj=>?_,fun j e' hj=>?_,fun j h' hj=>?_⟩,fun k e' hk hdd=>?_,fun k h' hk hdd=>?_⟩⟩
  · rw [gB] at hk
    by_cases hkn:k=n
    · rw [if_pos hkn] at hk;cases hk;exact ⟨e,by rw [hkn];exact he,by rw [hkn];exact hrB x hget⟩
    · rw [if_neg hkn] at hk;obtain ⟨b2,cells,el,q1,q2,q3,q4⟩:=m.B k e' hk;refine ⟨e',hk,b2,cells,el,q1,(hblock b2 (A9 q2) (fun e2=>hkn (m.uB k n e' e b2 hk he q1 (e2▸hb))) (fun q v cap hq hs=>?_)).trans q2,x.relCs (fun j hj hji=>(hid.b k e' hk).2 (hji▸hj)) q3,q4⟩;obtain ⟨en,h4,h5⟩:=hg.mem hq;exact m.uX k e' q en b2 cap hk h4 q1 hs
  · exact ⟨h',(fget k h' hk hh).1,rfl,rfl,rfl,fun h=>h,Az _ _ hk⟩
  · obtain ⟨h1,h2⟩:=fget k h' hk hh;refine hblock b2 (m.ltH h1 hs) (fun e2=>m.uX n e k h' blk cap he h1 hb (e2▸hs)) (fun q v cap' hq hs'=>?_);obtain ⟨en,h4,h5⟩:=hg.mem hq;have:=m.uH k q h' en b2 cap cap' h1 h4 hs hs';exact h2 v (this▸hq)
  · rw [hget] at hh;cases hh;exact hrH x
  · rw [A3] at hs
    rcases hloc b2 cap hs with ⟨q,v,cap0,hq,hs0⟩ | hnew
    · obtain ⟨en,h4,h5⟩:=hg.mem hq;refine ⟨fun k e' hk hbk=>?_,fun k h' cap' hk hh hs1=>?_⟩
      · obtain ⟨e0,h0⟩:=bget k e' hk;exact m.uX k e0 q en b2 cap0 h0 h4 hbk hs0
      · obtain ⟨h1,h2⟩:=fget k h' hk hh;have:=m.uH k q h' en b2 cap' cap0 h1 h4 hs1 hs0;exact h2 v (this▸hq)
    · refine ⟨fun k e' hk hbk=>?_,fun k h' cap' hk hh hs1=>?_⟩
      · obtain ⟨e0,h0⟩:=bget k e' hk;have:=m.ltB h0 hbk;omega
      · have:=m.ltH (fget k h' hk hh).1 hs1;omega
  · rw [State.getT_apply0 s wr ht0] at hj;exact hf.t j tv hj
  · rw [gB] at hj
    by_cases hjn:j=n
    · rw [if_pos hjn] at hj;cases hj;exact ⟨by rw [hjn];exact (hf.b n e he).1,hcn k hf hk⟩
    · rw [if_neg hjn] at hj;exact hf.b j e' hj
  · by_cases hji:j=id
    · rw [hji];exact hk
    · exact hf.h j h' (fget j h' hji hj).1
  · rw [gB] at hk
    by_cases hkn:k=n
    · rw [if_pos hkn] at hk;cases hk;cases hdd
    · rw [if_neg hkn] at hk;exact hk
  · by_cases hki:k=id
    · rw [hki,hget] at hk;cases hk;rw [hd] at hdd;cases hdd
    · exact (fget k h' hki hk).1
theorem qj (m : Mem P n0 β σ s w) {id : Nat} (hid : Fresh a s id) {g : List (Nat × Option (HEnt (std E N)))} (hg : Gone s g)
    (ho:w'.os=w.os) (htp:w'.tape=w.tape) (hout:w'.output=w.output) (hsize:w.heap.size≤w'.heap.size)
    (hblock:∀ k,k<w.heap.size→(∀ q v cap,(q,v)∈g→σ q≠some (k,cap))→w'.heap[k]?=w.heap[k]?)
    {wr:Wr (std E N)} (ht0:wr.ts=[]) (hbs:wr.bs=[]) (hhs:wr.hs=g) :
    Mem P n0 β (upd σ id none) (s.apply wr) w'∧Ext P (·=id) β σ s w β (upd σ id none) (s.apply wr) w'∧Tidy a (·=id) s (s.apply wr):=by
  have gB:=fun k=>State.getB_apply0 s wr hbs k
  have fget:∀ k h',(s.apply wr).getH k=some h'→s.getH k=some h'∧∀ v,(k,v)∉g:=fun k h' he=>hg.get hhs k h' he
  have hne:∀ k h',(s.apply wr).getH k=some h'→k≠id:=fun k h' he e=>hid.h k h' (fget k h' he).1 e.symm
  have x:Ext P (·=id) β σ s w β (upd σ id none) (s.apply wr) w':=by
    refine ⟨ho,htp,hout,hsize,fun k hk hm=>hblock k hk (fun q v cap hq hs=>?_),fun k hk=>.inl ?_,fun k e' hk hn=>⟨⟨e',by rw [gB] at hk;exact hk⟩,rfl⟩,fun k h' hk hn=>⟨h',(fget k h' hk).1,Az _ _ hn,rfl,fun _=>rfl⟩⟩
    · obtain ⟨en,h1,h2⟩:=hg.mem hq;exact hm (.inr ⟨q,en,cap,h1,h2,hs⟩)
    · rcases hk with ⟨k',e',h1,h2⟩ | ⟨k',h',cap,h1,h2,h3⟩
      · rw [gB] at h1;exact .inl ⟨k',e',h1,h2⟩
      · rw [Az _ _ (hne k' h' h1)] at h3;exact .inr ⟨k',h',cap,(fget k' h' h1).1,h2,h3⟩
  refine ⟨ZX (id:=id) m x (fun k e' hk=>?_) (fun k h' hk hh=>?_) (fun k h' b2 cap hk hh hs=>?_) (fun h' hh=>(hne id h' hh rfl).elim) (fun b2 cap hs=>by rw [A3] at hs;cases hs),x,⟨fun k hf hk=>⟨fun j tv hj=>?_,fun j e' hj=>?_,fun j h' hj=>?_⟩,fun k e' hk hdd=>?_,fun k h' hk hdd=>(fget k h' hk).1⟩⟩
  · rw [gB] at hk;obtain ⟨b2,cells,el,q1,q2,q3,q4⟩:=m.B k e' hk;refine ⟨e',hk,b2,cells,el,q1,(hblock b2 (A9 q2) (fun q v cap hq hs=>?_)).trans q2,x.relCs (fun j hj hji=>(hid.b k e' hk).2 (hji▸hj)) q3,q4⟩;obtain ⟨en,h4,h5⟩:=hg.mem hq;exact m.uX k e' q en b2 cap hk h4 q1 hs
  · exact ⟨h',(fget k h' hh).1,rfl,rfl,rfl,fun h=>h,Az _ _ hk⟩
  · obtain ⟨h1,h2⟩:=fget k h' hh;refine hblock b2 (m.ltH h1 hs) (fun q v cap' hq hs'=>?_);obtain ⟨en,h4,h5⟩:=hg.mem hq;have:=m.uH k q h' en b2 cap cap' h1 h4 hs hs';exact h2 v (this▸hq)
  · rw [State.getT_apply0 s wr ht0] at hj;exact hf.t j tv hj
  · rw [gB] at hj;exact hf.b j e' hj
  · exact hf.h j h' (fget j h' hj).1
  · rw [gB] at hk;exact hk
end
end Go.Px
end
