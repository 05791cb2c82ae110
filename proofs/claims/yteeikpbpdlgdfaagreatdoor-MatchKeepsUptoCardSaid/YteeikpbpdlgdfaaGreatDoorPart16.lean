/- Part 16. -/
import Derived.Test.YteeikpbpdlgdfaaGreatDoorPart15
set_option linter.unusedVariables false
set_option linter.unusedSimpArgs false
namespace Go.Px
section
variable {P:Program} {w w':World} {St:Blk→Prop} {n1:Nat}
def IntsAt (w:World) (n1 sz:Nat) (k:IntKind) (ad:Option Addr) (len:Nat):Prop :=
 ∀ i,i<len→∃ b o n,ad=some ⟨b,o,none⟩∧n1≤b∧w.cell? ⟨b,o+i * sz,none⟩=some (.int k n)∧w.frozen? ⟨b,o+i * sz,none⟩=false
theorem IntsAt.bump {sz len:Nat} {k:IntKind} {ad:Option Addr} (h:IntsAt w n1 sz k ad len) (hb:Bump n1 w w'):IntsAt w' n1 sz k ad len:=fun i hi=>by
 obtain ⟨b,o,n,h1,h2,h3,h4⟩:=h i hi;obtain ⟨m,h5⟩:=hb.int h3;exact ⟨b,o,m,h1,h2,h5,by rw [hb.fro];exact h4⟩
theorem Lb {t e t0 : TypeId} {ts : List TypeId} {k : IntKind} {v : Value} {p : PV} (h : Rep P w St t v p) (hSt : ∀ b, St b → n1 ≤ b.b ∧ b.c = true) (ht : AG P t = .sl e) (hts : AM P e = some (t0 :: ts)) (h0 : AG P t0 = .int k) :
    ∃ ad len cap,v=.slice ad len cap∧len=(pvL p).length∧IntsAt w n1 (t0::ts).length k ad len:=by
  cases h with
  | int h=>rw [ht] at h;cases h
  | bool h=>rw [ht] at h;cases h
  | str h=>rw [ht] at h;cases h
  | @sl _ e2 ts2 ad len cap l v h hts2 hl hr hc hm hv =>
    rw [ht] at h;cases h;rw [hts] at hts2;cases hts2;refine ⟨ad,len,cap,rfl,hl.symm,fun i hi=>?_⟩
    rcases hm with hm | ⟨b,o,ha,hb,hlt,hcell⟩
    · omega
    · have h1:=hcell i 0 hi (by simp);have h2:=hv i 0 t0 hi rfl;generalize v i 0=vi at h1 h2;generalize AP l i 0=pi at h2;cases h2 with
      | @int _ k2 n hk =>
        rw [h0] at hk;cases hk;have hle:i * (t0::ts).length+(t0::ts).length≤len * (t0::ts).length:=by
          rw [← Nat.succ_mul];exact Nat.mul_le_mul_right _ hi
        have hp:0<(t0::ts).length:=by simp
        exact ⟨b.b,o,n,ha,(hSt b hb).1,h1,hlt.2 (hSt b hb).2 _ (by omega) (by omega)⟩
      | bool hk=>rw [h0] at hk;cases hk
      | str hk=>rw [h0] at hk;cases hk
      | sl _ hk=>rw [h0] at hk;cases hk
structure RowAt (w:World) (n1 sz j0 j1 j2:Nat) (k1:IntKind) (b o i:Nat):Prop where
 new:n1≤b
 runs:∃ n,w.cell? ⟨b,o+(i * sz+j0),none⟩=some (.int .i64 n)
 free:w.frozen? ⟨b,o+(i * sz+j0),none⟩=false
 one:∃ ad len cap,w.cell? ⟨b,o+(i * sz+j1),none⟩=some (.slice ad len cap)∧len≤1000000∧IntsAt w n1 1 k1 ad len
 two:∃ ad len cap,w.cell? ⟨b,o+(i * sz+j2),none⟩=some (.slice ad len cap)∧len≤1000000∧IntsAt w n1 1 .i64 ad len
theorem RowAt.bump {sz j0 j1 j2 b o i:Nat} {k1:IntKind} (h:RowAt w n1 sz j0 j1 j2 k1 b o i) (hb:Bump n1 w w'):RowAt w' n1 sz j0 j1 j2 k1 b o i:=by
 obtain ⟨h1,⟨n,h2⟩,h3,⟨a,l,c,h4,h8,h5⟩,⟨a',l',c',h6,h9,h7⟩⟩:=h;exact ⟨h1,hb.int h2,by rw [hb.fro];exact h3,⟨a,l,c,hb.slice h4,h8,h5.bump hb⟩,⟨a',l',c',hb.slice h6,h9,h7.bump hb⟩⟩
theorem X4 {t e t1 t2 e1 e2 x1 x2 t0 : TypeId} {ts : List TypeId} {j0 j1 j2 : Nat} {k1 : IntKind} {v : Value} {p : PV} (h : Rep P w St t v p) (hSt : ∀ b, St b → n1 ≤ b.b ∧ b.c = true) (ht : AG P t = .sl e) (hts : AM P e = some ts)
    (g0:ts[j0]?=some t0) (k0:AG P t0=.int .i64) (g1:ts[j1]?=some t1) (l1:AG P t1=.sl e1) (y1:AM P e1=some [x1]) (z1:AG P x1=.int k1) (g2:ts[j2]?=some t2) (l2:AG P t2=.sl e2) (y2:AM P e2=some [x2]) (z2:AG P x2=.int .i64)
    (hsm:((pvL p).all fun r=>decide ((pvL (AE r j1)).length≤1000000)&&decide ((pvL (AE r j2)).length≤1000000))=true) :
    ∃ ad len cap,v=.slice ad len cap∧len=(pvL p).length∧∀ i,i<len→∃ b o,ad=some ⟨b,o,none⟩∧RowAt w n1 ts.length j0 j1 j2 k1 b o i:=by
  cases h with
  | int h=>rw [ht] at h;cases h
  | bool h=>rw [ht] at h;cases h
  | str h=>rw [ht] at h;cases h
  | @sl _ e2' ts2 ad len cap l v h hts2 hl hr hc hm hv =>
    rw [ht] at h;cases h;rw [hts] at hts2;cases hts2;refine ⟨ad,len,cap,rfl,hl.symm,fun i hi=>?_⟩;have hrow:(decide ((pvL (AP l i j1)).length≤1000000)&&decide ((pvL (AP l i j2)).length≤1000000))=true:=by
      have hi2:i<l.length:=by omega
      have hmem:AR l i∈l:=by
        unfold AR;rw [zzl,zzo hi2];exact List.getElem_mem hi2
      exact List.all_eq_true.1 hsm _ hmem
    rw [zzk] at hrow;have hr1:=of_decide_eq_true hrow.1;have hr2:=of_decide_eq_true hrow.2
    rcases hm with hm | ⟨b,o,ha,hb,hlt,hcell⟩
    · omega
    · have hj:∀ {j:Nat} {t':TypeId},ts[j]?=some t'→j<ts.length:=fun h=>(List.getElem?_eq_some_iff.1 h).1
      have hle:i * ts.length+ts.length≤len * ts.length:=by rw [← Nat.succ_mul];exact Nat.mul_le_mul_right _ hi
      refine ⟨b.b,o,ha,(hSt b hb).1,?_,hlt.2 (hSt b hb).2 _ (by have:=hj g0;omega) (by have:=hj g0;omega),?_,?_⟩
      · have h1:=hcell i j0 hi (hj g0);have h2:=hv i j0 t0 hi g0;rw [YQ h2 k0] at h1;exact ⟨_,h1⟩
      · have h1:=hcell i j1 hi (hj g1);obtain ⟨a,ln,c,h3,h5,h4⟩:=Lb (hv i j1 t1 hi g1) hSt l1 y1 z1;rw [h3] at h1;exact ⟨a,ln,c,h1,by omega,h4⟩
      · have h1:=hcell i j2 hi (hj g2);obtain ⟨a,ln,c,h3,h5,h4⟩:=Lb (hv i j2 t2 hi g2) hSt l2 y2 z2;rw [h3] at h1;exact ⟨a,ln,c,h1,by omega,h4⟩
structure CopyAt (w:World) (n1 b4 sz jI jP j0 j1 j2:Nat) (k1:IntKind) (lenI lenP:Nat):Prop where
 inn:∃ ad cap,w.cell? ⟨b4,jI,none⟩=some (.slice ad lenI cap)∧∀ i,i<lenI→∃ b o,ad=some ⟨b,o,none⟩∧RowAt w n1 sz j0 j1 j2 k1 b o i
 pow:∃ ad cap,w.cell? ⟨b4,jP,none⟩=some (.slice ad lenP cap)∧IntsAt w n1 3 .i64 ad lenP
theorem CopyAt.bump {b4 sz jI jP j0 j1 j2 lenI lenP:Nat} {k1:IntKind} (h:CopyAt w n1 b4 sz jI jP j0 j1 j2 k1 lenI lenP) (hb:Bump n1 w w'):CopyAt w' n1 b4 sz jI jP j0 j1 j2 k1 lenI lenP:=by
 obtain ⟨⟨a,c,h1,h2⟩,⟨a',c',h3,h4⟩⟩:=h;exact ⟨⟨a,c,hb.slice h1,fun i hi=>(h2 i hi).imp fun b ⟨o,h5,h6⟩=>⟨o,h5,h6.bump hb⟩⟩,⟨a',c',hb.slice h3,h4.bump hb⟩⟩
theorem Bump.trans {w'':World} (h:Bump n1 w w') (k:Bump n1 w' w''):Bump n1 w w'' where
 os:=k.os.trans h.os
 tape:=k.tape.trans h.tape
 output:=k.output.trans h.output
 size:=k.size.trans h.size
 old b hb:=(k.old b hb).trans (h.old b hb)
 fro a:=(k.fro a).trans (h.fro a)
 cell ad v hv:=by
  obtain ⟨v1,h1,h2⟩:=h.cell ad v hv;obtain ⟨v2,h3,h4⟩:=k.cell ad v1 h1;refine ⟨v2,h3,?_⟩
  rcases h2 with rfl | ⟨k1,n,n',rfl,rfl⟩
  ·exact h4
  ·rcases h4 with rfl | ⟨_,_,m,h5,rfl⟩
   ·exact .inr ⟨k1,n,n',rfl,rfl⟩
   ·cases h5;exact .inr ⟨k1,n,m,rfl,rfl⟩
end
end Go.Px
