/- Part 9. -/
import Derived.Test.YtapipgdcgmmkaaaGreatDoorPart06
import Derived.Test.YtapipgdcgmmkaaaGreatDoorPart08
import Derived.Test.YtapipgdcgmmkaaaGreatDoorPart07
set_option linter.unusedVariables false
set_option linter.unusedSimpArgs false
section
namespace Go.Px
set_option maxRecDepth 100000
def KE : List Nat := [2, 0, 0, 0, 0, 0, 0, 0, 1, 0, 0, 0, 0, 3, 0, 0, 1, 3, 0, 0, 0, 0, 0]
def EG (O : Alg) (x : Ags O) : O.M := (O.bind (O.call 14 [] (xr x kM 0)) fun c0 => (O.ite (O.bnot (O.cB c0 0)) (O.ret [.int (O.lit .i64 0)]) (O.ite (O.eqI (x.I 14) (O.lit .u8 3)) (O.assert (O.inb (O.sub .i64 (O.llen (x.L 17)) (O.lit .i64 1)) (O.llen (x.L 17))) (O.ret [.int (O.rI (x.L 17) (O.sub .i64 (O.llen (x.L 17)) (O.lit .i64 1)) 0)])) (O.ite (O.eqI (x.I 14) (O.lit .u8 2)) (O.bind (O.call 42 [] (ap O (xr x kM 0) [.int (O.llen (x.L 17))])) fun c1 => (O.ret [.int (O.cI c1 0)])) (O.ret [.int (O.lit .i64 0)])))))
def C6 : Nat → Env := eL [(14, As), (42, BT)]
theorem Hq {N ls} : C6 N 14 [] ls = As N ls := id rfl
theorem Hc {N ls} : C6 N 42 [] ls = BT N ls := id rfl
def EE := oS KE EG C6
def MV : List Nat := [2, 0, 0, 0, 0, 0, 0, 0, 1, 0, 0, 0, 0, 3, 0, 0, 1, 3, 0, 0, 0, 0, 0]
def GX (O : Alg) (x : Ags O) : O.M := (O.assert (O.inb (O.sub .i64 (O.llen (x.L 17)) (O.lit .i64 1)) (O.llen (x.L 17))) (O.ret (rr O (x.L 17) (O.sub .i64 (O.llen (x.L 17)) (O.lit .i64 1)) kI 0)))
def EZ (N : Nat) : Env := fun f fns ls => none
def DZ := oS MV GX EZ
def H9 : List Nat := [2, 0, 0, 0, 0, 0, 0, 0, 1, 0, 0, 0, 0, 3, 0, 0, 1, 3, 0, 0, 0, 0, 0]
def Dj (O : Alg) (x : Ags O) : O.M := (O.bind (O.call 19 [] (xr x kM 0)) fun c0 => (O.ite (O.bnot (O.cB c0 0)) (O.ret [.int (O.lit .i64 0)]) (O.ite (O.eqI (x.I 14) (O.lit .u8 3)) (O.bind (O.call 36 [] (xr x kM 0)) fun c1 => (O.ret [.int (O.cI c1 0)])) (O.ite (O.eqI (x.I 14) (O.lit .u8 2)) (O.bind (O.call 48 [] (ap O (xr x kM 0) [.int (O.llen (x.L 17))])) fun c1 => (O.ret [.int (O.cI c1 0)])) (O.ret [.int (O.lit .i64 0)])))))
def Ba (N : Nat) : Env := fun f fns ls => (cond (Nat.beq f 19 && Ac fns []) (CP N ls) (cond (Nat.beq f 36 && Ac fns []) (DZ N ls) (cond (Nat.beq f 48 && Ac fns []) (CT N ls) none)))
theorem Jp {N ls} : Ba N 19 [] ls = CP N ls := id rfl
theorem E0 {N ls} : Ba N 36 [] ls = DZ N ls := id rfl
theorem EY {N ls} : Ba N 48 [] ls = CT N ls := id rfl
def Dc := oS H9 Dj Ba
def Pt : List Nat := [2, 0, 0, 0, 0, 0, 0, 0, 1, 0, 0, 0, 0, 3, 0, 0, 1, 3, 0, 0, 0, 0, 0, 0]
def HN (O : Alg) (x : Ags O) : O.M := (O.bind (O.fix (fun s0 c0 => (O.ite (O.lt (O.cI c0 1) (O.llen (x.L 17))) (O.assert (O.inb (O.cI c0 1) (O.llen (x.L 17))) (O.ite (O.eqI (O.rI (x.L 17) (O.cI c0 1) 0) (x.I 23)) (s0 [.int (O.add .i64 (O.cI c0 0) (O.rI (x.L 17) (O.cI c0 1) 3)), .int (O.add .i64 (O.cI c0 1) (O.lit .i64 1))]) (s0 [.int (O.cI c0 0), .int (O.add .i64 (O.cI c0 1) (O.lit .i64 1))]))) (O.ret [.int (O.cI c0 0)]))) [.int (O.lit .i64 0), .int (O.lit .i64 0)]) fun c0 => (O.ret [.int (O.cI c0 0)]))
def Mu : Nat → Env := eL []
def Du := oS Pt HN Mu
def H4 : List Nat := [2, 0, 0, 0, 0, 0, 0, 0, 1, 0, 0, 0, 0, 3, 0, 0, 1, 3, 0, 0, 0, 0, 0]
def Dd (O : Alg) (x : Ags O) : O.M := (O.bind (O.call 19 [] (xr x kM 0)) fun c0 => (O.ite (O.iteB (O.bnot (O.cB c0 0)) O.tt (O.eqI (O.llen (x.L 17)) (O.lit .i64 0))) (O.ret [.int (O.lit .u8 0), .int (O.lit .i64 0), .int (O.lit .i64 0)]) (O.bind (O.call 36 [] (xr x kM 0)) fun c1 => (O.bind (O.call 51 [] [.int (O.cI c1 0)]) fun c2 => (O.ite (O.iteB (O.eqI (O.cI c1 27) (O.lit .u8 5)) (O.eqI (x.I 3) (O.lit .i64 0)) O.ff) (O.ret [.int (O.lit .u8 5), .int (O.lit .i64 0), .int (O.lit .i64 0)]) (O.ite (O.eqI (O.cI c1 27) (O.lit .u8 5)) (O.ret [.int (O.lit .u8 6), .int (O.lit .i64 0), .int (O.lit .i64 0)]) (O.ite (O.eqI (O.cI c1 27) (O.lit .u8 0)) (O.ret [.int (O.lit .u8 0), .int (O.lit .i64 0), .int (O.lit .i64 0)]) (O.ite (O.iteB (O.eqI (O.llen (x.L 17)) (O.mul .i64 (O.lit .i64 2) (x.I 2))) (O.le (O.cI c1 1) (O.cI c1 3)) O.ff) (O.ret [.int (O.lit .u8 2), .int (O.cI c1 0), .int (O.sub .i64 (O.sub .i64 (x.I 1) (O.lit .i64 1)) (O.cI c1 4))]) (O.ite (O.iteB (O.eqI (O.llen (x.L 17)) (O.mul .i64 (O.lit .i64 2) (x.I 2))) (O.eqI (O.cI c1 3) (O.sub .i64 (O.cI c1 1) (O.lit .i64 1))) O.ff) (O.ret [.int (O.lit .u8 4), .int (O.lit .i64 0), .int (O.lit .i64 0)]) (O.ite (O.eqI (O.llen (x.L 17)) (O.mul .i64 (O.lit .i64 2) (x.I 2))) (O.ret [.int (O.lit .u8 1), .int (O.cI c2 0), .int (O.sub .i64 (O.sub .i64 (O.cI c1 1) (O.lit .i64 1)) (O.cI c1 3))]) (O.bind (O.ite (O.eqI (O.llen (x.L 17)) (O.lit .i64 3)) (O.call 23 [] (ap O (xr x kM 0) [.int (O.cI c1 0)])) (O.ret [.int (O.lit .i64 0)])) fun c3 => (O.bind (O.ite (O.eqI (O.llen (x.L 17)) (O.lit .i64 3)) (O.call 23 [] (ap O (xr x kM 0) [.int (O.cI c2 0)])) (O.ret [.int (O.lit .i64 0)])) fun c4 => (O.ite (O.iteB (O.eqI (O.llen (x.L 17)) (O.lit .i64 3)) (O.lt (O.cI c3 0) (O.cI c4 0)) O.ff) (O.bind (O.call 23 [] (ap O (xr x kM 0) [.int (O.cI c2 0)])) fun c5 => (O.bind (O.call 23 [] (ap O (xr x kM 0) [.int (O.cI c1 0)])) fun c6 => (O.ret [.int (O.lit .u8 3), .int (O.cI c2 0), .int (O.sub .i64 (O.cI c5 0) (O.cI c6 0))]))) (O.ret [.int (O.lit .u8 0), .int (O.lit .i64 0), .int (O.lit .i64 0)]))))))))))))))
def BM (N : Nat) : Env := fun f fns ls => (cond (Nat.beq f 19 && Ac fns []) (CP N ls) (cond (Nat.beq f 23 && Ac fns []) (Du N ls) (cond (Nat.beq f 36 && Ac fns []) (DZ N ls) (cond (Nat.beq f 51 && Ac fns []) (Cz N ls) none))))
theorem Jn {N ls} : BM N 19 [] ls = CP N ls := id rfl
theorem Ek {N ls} : BM N 23 [] ls = Du N ls := id rfl
theorem E2 {N ls} : BM N 36 [] ls = DZ N ls := id rfl
theorem Ej {N ls} : BM N 51 [] ls = Cz N ls := id rfl
def Dq := oS H4 Dd BM
def FX : List Nat := [2, 0, 0, 0, 0, 0, 0, 0, 1, 0, 0, 0, 0, 3, 0, 0, 1, 3, 0, 0, 0, 0, 0, 0]
def CS (O : Alg) (x : Ags O) : O.M := (O.bind (O.call 9 [] []) fun c0 => (O.ite (O.bnot (O.cB c0 0)) (O.ret [.bool O.ff]) (O.bind (O.call 10 [] (xr x kM 0)) fun c1 => (O.bind (O.call 14 [] (cr O c1 kM 0)) fun c2 => (O.bind (O.call 19 [] (cr O c1 kM 0)) fun c3 => (O.bind (O.ite (O.beq (O.cB c2 0) (O.cB c3 0)) (O.call 20 [] (cr O c1 kM 0)) (O.ret [.int (O.lit .i64 0)])) fun c4 => (O.bind (O.ite (O.beq (O.cB c2 0) (O.cB c3 0)) (O.call 21 [] (cr O c1 kM 0)) (O.ret [.int (O.lit .i64 0)])) fun c5 => (O.bind (O.ite (O.iteB (O.beq (O.cB c2 0) (O.cB c3 0)) (O.eqI (O.cI c4 0) (O.cI c5 0)) O.ff) (O.call 22 [] (ap O (cr O c1 kM 0) [.int (x.I 23)])) (O.ret [.int (O.lit .i64 0)])) fun c6 => (O.bind (O.ite (O.iteB (O.beq (O.cB c2 0) (O.cB c3 0)) (O.eqI (O.cI c4 0) (O.cI c5 0)) O.ff) (O.call 23 [] (ap O (cr O c1 kM 0) [.int (x.I 23)])) (O.ret [.int (O.lit .i64 0)])) fun c7 => (O.bind (O.ite (O.iteB (O.iteB (O.beq (O.cB c2 0) (O.cB c3 0)) (O.eqI (O.cI c4 0) (O.cI c5 0)) O.ff) (O.eqI (O.cI c6 0) (O.cI c7 0)) O.ff) (O.call 24 [] (cr O c1 kM 0)) (O.ret [.int (O.lit .u8 0), .int (O.lit .i64 0), .int (O.lit .i64 0)])) fun c8 => (O.bind (O.ite (O.iteB (O.iteB (O.beq (O.cB c2 0) (O.cB c3 0)) (O.eqI (O.cI c4 0) (O.cI c5 0)) O.ff) (O.eqI (O.cI c6 0) (O.cI c7 0)) O.ff) (O.call 25 [] (cr O c1 kM 0)) (O.ret [.int (O.lit .u8 0), .int (O.lit .i64 0), .int (O.lit .i64 0)])) fun c9 => (O.ret [.bool (O.iteB (O.iteB (O.iteB (O.beq (O.cB c2 0) (O.cB c3 0)) (O.eqI (O.cI c4 0) (O.cI c5 0)) O.ff) (O.eqI (O.cI c6 0) (O.cI c7 0)) O.ff) (O.band (O.eqI (O.cI c8 0) (O.cI c9 0)) (O.band (O.eqI (O.cI c8 1) (O.cI c9 1)) (O.eqI (O.cI c8 2) (O.cI c9 2)))) O.ff)]))))))))))))
def AW (N : Nat) : Env := fun f fns ls => (cond (Nat.beq f 9 && Ac fns []) (FA N ls) (cond (Nat.beq f 10 && Ac fns []) (Hg N ls) (cond (Nat.beq f 14 && Ac fns []) (As N ls) (cond (Nat.beq f 19 && Ac fns []) (CP N ls) (cond (Nat.beq f 20 && Ac fns []) (EE N ls) (cond (Nat.beq f 21 && Ac fns []) (Dc N ls) (cond (Nat.beq f 22 && Ac fns []) (BI N ls) (cond (Nat.beq f 23 && Ac fns []) (Du N ls) (cond (Nat.beq f 24 && Ac fns []) (B7 N ls) (cond (Nat.beq f 25 && Ac fns []) (Dq N ls) none))))))))))
theorem H3 {N ls} : AW N 9 [] ls = FA N ls := id rfl
theorem Ja {N ls} : AW N 10 [] ls = Hg N ls := id rfl
theorem G4 {N ls} : AW N 14 [] ls = As N ls := id rfl
theorem H6 {N ls} : AW N 19 [] ls = CP N ls := id rfl
theorem Fw {N ls} : AW N 20 [] ls = EE N ls := id rfl
theorem G8 {N ls} : AW N 21 [] ls = Dc N ls := id rfl
theorem HI {N ls} : AW N 22 [] ls = BI N ls := id rfl
theorem H5 {N ls} : AW N 23 [] ls = Du N ls := id rfl
theorem F6 {N ls} : AW N 24 [] ls = B7 N ls := id rfl
theorem Gn {N ls} : AW N 25 [] ls = Dq N ls := id rfl
def CX := oS FX CS AW
end Go.Px
end
section
namespace Go.Px
set_option maxRecDepth 100000
def btw (a b c : Int) : Bool := iLe b a && iLe a c
theorem Ct (N : Nat) (a b c : Int) : AU N [.int a, .int b, .int c] = some [.bool (btw a b c)] := by
 show some [PV.bool (cond (iLe b a) (iLe a c) false)] = _
 rw [Rs]; rfl
theorem Fe (N : Nat) (a b c : Int) : Bb N [.int a, .int b, .int c] = some [.bool (btw a b c)] := by
 show some [PV.bool (cond (iLe b a) (iLe a c) false)] = _
 rw [Rs]; rfl
theorem XB (N : Nat) (a b c : Int) : JX N [.int a, .int b, .int c] = some [.bool (btw a b c)] := by
 show some [PV.bool (cond (iLe b a) (iLe a c) false)] = _
 rw [Rs]; rfl
theorem TJ (N : Nat) (a b c : Int) : EV N [.int a, .int b, .int c] = some [.bool (btw a b c)] := by
 show some [PV.bool (cond (iLe b a) (iLe a c) false)] = _
 rw [Rs]; rfl
def Cx (x1 x2 x3 x4 x5 x6 x7 x9 x10 x11 x12 : Int) : Bool := btw x1 2 11 && btw x2 1 2 && btw x3 0 90 && btw x4 4 8 && btw x5 0 90 && btw x6 1 5 && btw x7 1 5 && btw x9 0 200 && btw x10 0 1000 && btw x11 0 9 && btw x12 0 11
theorem Qt (N : Nat) (x0 : ByteArray) (x1 x2 x3 x4 x5 x6 x7 x9 x10 x11 x12 : Int) (x8 : Bool) (x13 : Rows) :
   Co N [.str x0, .int x1, .int x2, .int x3, .int x4, .int x5, .int x6, .int x7, .bool x8, .int x9, .int x10, .int x11, .int x12, .rows x13] = some [.bool (Cx x1 x2 x3 x4 x5 x6 x7 x9 x10 x11 x12)] := by
  show EC (std (Er N) N) (xOf _) = _
  have e : ∀ ls, Er N 117 [] ls = Bb N ls := fun ls => rfl
  simp only [EC, std, xOf, e, Fe, PXb, PXc, PXn, AL, Cx]
def Gx (s : ByteArray) (i : Nat) : Bool := !(iLe 65 (FG s i) && iLe (FG s i) 90) && ((i : Int) == 0 || ((!(FG s i == 95) && !(FG s i == 45)) && (iLt (FG s i) 48 || iLt 57 (FG s i))))
def E9 (s : ByteArray) : Bool := !Ae (Gx s) s.size 0 && (iLe 1 s.size && iLe s.size 16)
theorem Yz (s : ByteArray) : (Ck s).length = s.size := by
 simp only [Ck, List.length_map, Array.length_toList]; rfl
theorem ZC (s : ByteArray) (i : Nat) (h : i < s.size) : pvI (AM (Ck s) i 0) = FG s i := by
 unfold AM A5 AF Ck FG
 simp only [List.getD_eq_getElem?_getD, List.getElem?_map]
 have : i < s.data.toList.length := by simpa using h
 rw [List.getElem?_eq_getElem this]
 simp [List.getElem?_eq_getElem this]
theorem UN (N : Nat) (s : ByteArray) (hN : s.size < N) (hs : s.size ≤ 1048576) : E4 N [.str s] = some [.bool (E9 s)] := by
 show Ha (std (M3 N) N) (xOf _) = _
 simp only [Ha, std, xOf, Yz, PXb, PXc, PXn, AL]
 refine Am (CC (len := s.size) (Gx s) [.bool false] ?_ ?_ N hN) ?_
 ·intro self
  simp only [PXb, PXc, PXn, AL, Bo]
 ·intro i self hi
  simp only [PXb, PXc, PXn, AL, Int.toNat_natCast, ZC s i hi, A0 (show i ≤ 1099511627776 by omega), BW hi, Az hi, Gx]
 ·unfold E9
  cases Ae (Gx s) s.size 0 <;> rfl
theorem Xz (bs : ByteArray) (i : Nat) (r : List UInt8) : (ByteArray.toList.loop bs i r).length = r.length + (bs.size - i) := by
 induction i, r using ByteArray.toList.loop.induct (bs := bs) with
 | case1 i r h ih => unfold ByteArray.toList.loop; rw [if_pos h, ih]; simp; omega
 | case2 i r h => unfold ByteArray.toList.loop; rw [if_neg h]; simp; omega
theorem Rq (bs : ByteArray) : bs.toList.length = bs.size := by
 unfold ByteArray.toList; rw [Xz]; simp
theorem VW (s : ByteArray) : (s.toList == (⟨#[]⟩ : ByteArray).toList) = !iLe 1 (s.size : Int) := by
 have h := Rq s
 have h0 := Rq (⟨#[]⟩ : ByteArray)
 rw [Bool.eq_iff_iff]
 simp only [beq_iff_eq, iLe, Bool.not_eq_true', decide_eq_false_iff_not]
 constructor
 ·intro e; rw [e, h0] at h
  have : (⟨#[]⟩ : ByteArray).size = 0 := rfl
  omega
 ·intro e
  have e1 : s.toList = [] := List.eq_nil_of_length_eq_zero (by omega)
  have e2 : (⟨#[]⟩ : ByteArray).toList = [] := List.eq_nil_of_length_eq_zero h0
  rw [e1, e2]
theorem VS (N : Nat) (s : ByteArray) (hN : s.size < N) (hs : s.size ≤ 1048576) : F0 N [.str s] = some [.bool (E9 s)] := by
 show Iw (std (N4 N) N) (xOf _) = _
 simp only [Iw, std, xOf, PXb, PXc, PXn, AL, VW]
 have e : iLe 1 (s.size : Int) = false ∨ iLe 1 (s.size : Int) = true := by cases iLe 1 (s.size : Int) <;> simp
 have e2 : iLt 16 (s.size : Int) = !iLe (s.size : Int) 16 := by unfold iLt iLe; rw [Bool.eq_iff_iff]; simp
 rw [e2]
 cases h : iLe 1 (s.size : Int) && iLe (s.size : Int) 16 with
 | false =>
  have : (!iLe 1 (s.size : Int) || !iLe (s.size : Int) 16) = true := by rw [← Bool.not_and, h]; rfl
  simp only [this, cond_true, E9, h, Bool.and_false]
 | true =>
  have : (!iLe 1 (s.size : Int) || !iLe (s.size : Int) 16) = false := by rw [← Bool.not_and, h]; rfl
  simp only [this, cond_false, E9, h, Bool.and_true]
  refine Am (CC (len := s.size) (Gx s) [.bool false] ?_ ?_ N hN) ?_
  ·intro self
   simp only [PXb, PXc, PXn, AL, Bo]
  ·intro i self hi
   simp only [PXb, PXc, AL, Int.toNat_natCast, A0 (show i ≤ 1099511627776 by omega), BW hi, Az hi, Gx]
   cases (iLe 65 (FG s i) && iLe (FG s i) 90) <;> rfl
  ·cases Ae (Gx s) s.size 0 <;> rfl
end Go.Px
end
section
namespace Go.Px
set_option maxRecDepth 100000
theorem Vt {i len : Nat} (h : i < len) (hl : len ≤ 1099511627776) : (!iLt 0 (i : Int) || iIn (IntKind.i64.wrap ((i : Int) - 1)) (len : Int)) = true := by
 rw [Lz (by omega) (by omega)]
 simp only [iLt, iIn, Bool.or_eq_true, Bool.not_eq_true', decide_eq_false_iff_not, decide_eq_true_eq]
 omega
def WB (L : Rows) (ov : Int) (i : Nat) : Bool := (iLt (atI L i 0) 1 || iLt (atI L i 1) (atI L i 0) || iLt ov (atI L i 1)) || !btw (atI L i 2) 0 11
def Uy (L : Rows) (i : Nat) : Bool := iLt 0 (i : Int) && iLe (atI L i 0) (pvI (AM L (IntKind.i64.wrap ((i : Int) - 1)).toNat 1))
def SV (L : Rows) (ov : Int) (i : Nat) : Option (List PV) := cond (WB L ov i) (some [.int 2]) (cond (Uy L i) (some [.int 8]) none)
def W5 : Option (List PV) → Int
 | none => 0
 | some r => pvI (AF r 0)
def Ru (L : Rows) (ov : Int) : Int := cond (iLt 8 (L.length : Int)) 9 (W5 (F3 (SV L ov) L.length 0))
theorem R4 (o : Option (List PV)) : cond (pvI (AF (UI o) 0) == ((0 : Nat) : Int)) (some [PV.int (pvI (AF (UI o) 1))]) (some [PV.int 0]) = some [PV.int (W5 o)] := by
 cases o <;> rfl
theorem RZ (N : Nat) (x0 : ByteArray) (x1 x2 x3 x4 x5 x6 x7 x9 x10 x11 x12 : Int) (x8 : Bool) (L : Rows) (hN : 2097152 < N) :
   DH N [.str x0, .int x1, .int x2, .int x3, .int x4, .int x5, .int x6, .int x7, .bool x8, .int x9, .int x10, .int x11, .int x12, .rows L] = some [.int (Ru L x3)] := by
  show Eh (std (Ff N) N) (xOf _) = _
  have e : ∀ ls, Ff N 117 [] ls = Bb N ls := fun ls => rfl
  simp only [Eh, std, xOf, e, Fe, PXb, PXc, PXn, AL, Ru]
  cases h8 : iLt 8 (L.length : Int) with
  | true => rfl
  | false =>
    have hl : L.length ≤ 8 := by simp [iLt] at h8; omega
    simp only [cond_false]
    refine Am (Fm (len := L.length) (SV L x3) ?_ ?_ L.length 0 N (by omega) (by omega)) ?_
    · intro self
      simp only [PXb, PXc, PXn, AL, Bo]
    · intro i self hi
      simp only [PXb, PXc, PXn, AL, Int.toNat_natCast, A0 (show i ≤ 1099511627776 by omega), BW hi, Az hi, Fe, e, Vt hi (by omega)]
      simp only [SV, WB, Uy, atI]
      cases (iLt (pvI (AM L i 0)) 1 || iLt (pvI (AM L i 1)) (pvI (AM L i 0)) || iLt x3 (pvI (AM L i 1)) || !btw (pvI (AM L i 2)) 0 11) <;>
      cases (iLt 0 (i : Int) && iLe (pvI (AM L i 0)) (pvI (AM L (IntKind.i64.wrap ((i : Int) - 1)).toNat 1))) <;> rfl
    · exact R4 _
def B1 (x0 : ByteArray) (x1 x2 x3 x4 x5 x6 x7 x9 x10 x11 x12 : Int) (L : Rows) : Int :=
  cond (!E9 x0) 5 (cond (!Cx x1 x2 x3 x4 x5 x6 x7 x9 x10 x11 x12) 2
    (cond ((!(x10 == 0) && x2 == 1) || ((!(x5 == 0) || iLt 0 (L.length : Int)) && x3 == 0)) 1
      (cond (!(x5 == 0) && iLt (IntKind.i64.wrap (x5 * x1)) x3) 13 (Ru L x3))))
theorem LD (N : Nat) (x0 : ByteArray) (x1 x2 x3 x4 x5 x6 x7 x9 x10 x11 x12 : Int) (x8 : Bool) (L : Rows) (hN : 2097152 < N) (hs : x0.size ≤ 1048576) :
   AX N [.str x0, .int x1, .int x2, .int x3, .int x4, .int x5, .int x6, .int x7, .bool x8, .int x9, .int x10, .int x11, .int x12, .rows L] = some [.int (B1 x0 x1 x2 x3 x4 x5 x6 x7 x9 x10 x11 x12 L)] := by
  show FR (std (Cv N) N) (xOf _) = _
  have e : ∀ ls, Cv N 76 [] ls = E4 N ls := fun ls => rfl
  have e2 : ∀ ls, Cv N 77 [] ls = Co N ls := fun ls => rfl
  have e3 : ∀ ls, Cv N 78 [] ls = DH N ls := fun ls => rfl
  simp only [FR, std, xOf, e, e2, e3, UN N x0 (by omega) hs, Qt, RZ N _ _ _ _ _ _ _ _ _ _ _ _ _ _ hN, PXb, PXc, AL, B1]
  cases E9 x0 <;> cases Cx x1 x2 x3 x4 x5 x6 x7 x9 x10 x11 x12 <;> try rfl
  simp only [PXb, PXc, AL, Bool.not_true]
  cases (!(x10 == 0) && x2 == 1) <;> cases ((!(x5 == 0) || iLt 0 (L.length : Int)) && x3 == 0) <;> try rfl
  cases (!(x5 == 0) && iLt (IntKind.i64.wrap (x5 * x1)) x3) <;> rfl
theorem ON (N : Nat) (x0 : ByteArray) (x1 x2 x3 x4 x5 x6 x7 x9 x10 x11 x12 : Int) (x8 : Bool) (L : Rows) (hN : 2097152 < N) (hs : x0.size ≤ 1048576) :
   Bw N [.str x0, .int x1, .int x2, .int x3, .int x4, .int x5, .int x6, .int x7, .bool x8, .int x9, .int x10, .int x11, .int x12, .rows L] = some [.int (B1 x0 x1 x2 x3 x4 x5 x6 x7 x9 x10 x11 x12 L)] := by
  show HX (std (FD N) N) (xOf _) = _
  have e : ∀ ls, FD N 84 [] ls = F0 N ls := fun ls => rfl
  have e2 : ∀ ls, FD N 85 [] ls = JX N ls := fun ls => rfl
  simp only [HX, std, xOf, e, e2, VS N x0 (by omega) hs, XB, PXb, PXc, PXn, AL]
  simp only [← Bool.not_and, B1]
  rw [show (btw x1 2 11 && btw x2 1 2 && btw x3 0 90 && btw x4 4 8 && btw x5 0 90 && btw x6 1 5 && btw x7 1 5 && btw x9 0 200 && btw x10 0 1000 && btw x11 0 9 && btw x12 0 11) = Cx x1 x2 x3 x4 x5 x6 x7 x9 x10 x11 x12 from rfl]
  rw [Bool.and_comm (x3 == 0)]
  cases E9 x0 <;> cases Cx x1 x2 x3 x4 x5 x6 x7 x9 x10 x11 x12 <;> try rfl
  cases (!(x10 == 0) && x2 == 1) || ((!(x5 == 0) || iLt 0 (L.length : Int)) && x3 == 0) <;> try rfl
  cases (!(x5 == 0) && iLt (IntKind.i64.wrap (x5 * x1)) x3) <;> try rfl
  simp only [Bool.not_true, cond_false, Ru]
  cases h8 : iLt 8 (L.length : Int) with
  | true => rfl
  | false =>
    have hl : L.length ≤ 8 := by simp [iLt] at h8; omega
    simp only [cond_false]
    refine Am (Fm (len := L.length) (SV L x3) ?_ ?_ L.length 0 N (by omega) (by omega)) ?_
    · intro self
      simp only [PXb, PXc, PXn, AL, Bo]
    · intro i self hi
      simp only [PXb, PXc, PXn, AL, Int.toNat_natCast, A0 (show i ≤ 1099511627776 by omega), BW hi, Az hi, Vt hi (by omega)]
      simp only [SV, WB, Uy, atI]
      cases (iLt (pvI (AM L i 0)) 1 || iLt (pvI (AM L i 1)) (pvI (AM L i 0)) || iLt x3 (pvI (AM L i 1)) || !btw (pvI (AM L i 2)) 0 11) <;>
      cases (iLt 0 (i : Int) && iLe (pvI (AM L i 0)) (pvI (AM L (IntKind.i64.wrap ((i : Int) - 1)).toNat 1))) <;> rfl
    · exact R4 _
end Go.Px
end
section
namespace Go.Px
set_option maxRecDepth 100000
theorem Nj (N : Nat) (L : Rows) (v : Int) (hN : L.length < N) (hl : L.length ≤ 2097152) : B0 N [.rows L, .int v] = some [.int (Wn (fun j => v == atI L j 0) L.length)] := by
 show Cr (std (Fx N) N) (xOf _) = _
 simp only [Cr, std, xOf, PXb, PXc, PXn, AL]
 refine Am (Fm (len := L.length) (MP fun j => v == atI L j 0) ?_ ?_ L.length 0 N (by omega) (by omega)) ?_
 ·intro self
  simp only [PXb, PXc, PXn, AL, Bo]
 ·intro i self hi
  simp only [PXb, PXc, PXn, AL, A0 (show i ≤ 1099511627776 by omega), BW hi, Az hi, MP, Eg]
  cases v == atI L i 0 <;> rfl
 ·unfold Wn
  cases F3 (MP fun j => v == atI L j 0) L.length 0 <;> rfl
def RG (L : Rows) (k : Nat) (v : Int) : Bool := Ae (fun j => v == atI L j 0) k 0
theorem Ko (N : Nat) (L : Rows) (v : Int) (hN : L.length < N) (hl : L.length ≤ 2097152) : Aj N [.rows L, .int v] = some [.bool (RG L L.length v)] := by
 show B4 (std (Cb N) N) (xOf _) = _
 have e : ∀ ls, Cb N 136 [] ls = B0 N ls := fun ls => rfl
 simp only [B4, std, xOf, PXb, PXc, PXn, AL, e, Nj N L v hN hl, Ra, RG]
theorem X8 (L : Rows) (i : Nat) (v : Int) (h : i ≤ L.length) : RG (L.take i) (L.take i).length v = RG L i v := by
 rw [List.length_take, Nat.min_eq_left h]
 exact R7 i 0 (fun j _ hj => by rw [Ud (by omega)])
def Gq (L : Rows) (n : Int) (i : Nat) : Bool := !btw (atI L i 0) 1 n || RG L i (atI L i 0)
def Dn (L : Rows) (n : Int) : Bool := !Ae (Gq L n) L.length 0
theorem F1 (N : Nat) (L : Rows) (n : Int) (hN : L.length < N) (hl : L.length ≤ 2097152) : Bs N [.rows L, .int n] = some [.bool (Dn L n)] := by
 show Ca (std (B6 N) N) (xOf _) = _
 have e : ∀ ls, B6 N 79 [] ls = AU N ls := fun ls => rfl
 have e2 : ∀ ls, B6 N 118 [] ls = Aj N ls := fun ls => rfl
 simp only [Ca, std, xOf, PXb, PXc, PXn, AL]
 refine Am (CC (len := L.length) (Gq L n) [.bool false] ?_ ?_ N hN) ?_
 ·intro self
  simp only [PXb, PXc, PXn, AL, Bo]
 ·intro i self hi
  have h1 : (L.take i).length ≤ L.length := List.length_take_le' i L
  simp only [PXb, PXc, PXn, AL, A0 (show i ≤ 1099511627776 by omega), BW hi, Az hi, e, e2, Ct, YE (Nat.le_of_lt hi), Int.toNat_zero, List.drop_zero, Ko N (L.take i) _ (by omega) (by omega), X8 L i _ (by omega), Eg, Gq]
  cases btw (atI L i 0) 1 n <;> cases RG L i (atI L i 0) <;> rfl
 ·unfold Dn
  cases Ae (Gq L n) L.length 0 <;> rfl
theorem SJ (N : Nat) (L : Rows) (n : Int) (hN : L.length < N) (hl : L.length ≤ 2097152) : Hj N [.rows L, .int n] = some [.bool (Dn L n)] := by
 show Kb (std (Kp N) N) (xOf _) = _
 have e : ∀ ls, Kp N 121 [] ls = EV N ls := fun ls => rfl
 simp only [Kb, std, xOf, PXb, PXc, PXn, AL]
 refine Am (CC (len := L.length) (Gq L n) [.bool false] ?_ ?_ N hN) ?_
 ·intro self
  simp only [PXb, PXc, PXn, AL, Bo]
 ·intro i self hi
  have h1 : (L.take i).length = i := by rw [List.length_take]; omega
  simp only [PXb, PXc, PXn, AL, A0 (show i ≤ 1099511627776 by omega), BW hi, Az hi, e, TJ, YE (Nat.le_of_lt hi), Int.toNat_zero, List.drop_zero, Eg, Gq, h1]
  cases btw (atI L i 0) 1 n with
  | false => rfl
  | true =>
   simp only [PXb, PXc, PXn, AL]
   refine Am (MU (len := i) (fun j => [.int (j : Int)]) (fun j => atI L i 0 == atI L j 0) [.int 0, .bool false] [.int 1, .int (i : Int)] ?_ ?_ N (by omega)) ?_
   ·intro self
    simp only [PXb, PXc, PXn, AL, Bo]
   ·intro j self hj
    simp only [PXb, PXc, PXn, AL, A0 (show j ≤ 1099511627776 by omega), BW hj, Az hj, Ud hj]
    rfl
   ·unfold RG
    cases Ae (fun j => atI L i 0 == atI L j 0) i 0 <;> rfl
 ·unfold Dn
  cases Ae (Gq L n) L.length 0 <;> rfl
def lsI (L14 L16 L17 L19 L24 : Rows) (b18 b20 : Bool) (x0 x1 x2 x3 x4 x5 x6 x7 x8 x9 x10 x11 x12 x13 x15 x21 x22 x23 x25 x26 x27 : Int) : List PV :=
 [.int x0, .int x1, .int x2, .int x3, .int x4, .int x5, .int x6, .int x7, .int x8, .int x9, .int x10, .int x11, .int x12, .int x13, .rows L14, .int x15, .rows L16, .rows L17, .bool b18, .rows L19, .bool b20, .int x21, .int x22, .int x23, .rows L24, .int x25, .int x26, .int x27]
section
variable (N : Nat) (L14 L16 L17 L19 L24 : Rows) (b18 b20 : Bool) (x0 x1 x2 x3 x4 x5 x6 x7 x8 x9 x10 x11 x12 x13 x15 x21 x22 x23 x25 x26 x27 : Int)
theorem Um (hN : L14.length < N) (hl : L14.length ≤ 2097152) : Eu N (lsI L14 L16 L17 L19 L24 b18 b20 x0 x1 x2 x3 x4 x5 x6 x7 x8 x9 x10 x11 x12 x13 x15 x21 x22 x23 x25 x26 x27) = some [.bool (JP L14)] := by
 show HP (std (ND N) N) (xOf (lsI ..)) = _
 simp only [HP, std, xOf, lsI, PXb, PXc, PXn, AL]
 refine Am (CC (len := L14.length) (fun i => !(atI L14 i 0 == 0)) [.bool true] ?_ ?_ N hN) ?_
 ·intro self
  simp only [PXb, PXc, PXn, AL, Bo]
 ·intro i self hi
  simp only [PXb, PXc, PXn, AL, A0 (show i ≤ 1099511627776 by omega), BW hi, Az hi, Eg]
 ·unfold JP
  cases Ae (fun i => !(atI L14 i 0 == 0)) L14.length 0 <;> rfl
end
theorem Mf (N : Nat) (v : Int) : Bt N [.int v] = some [.bool (!btw v 0 1000000000)] := by
 show CZ (std (C9 N) N) (xOf _) = _
 have e : ∀ ls, C9 N 79 [] ls = AU N ls := fun ls => rfl
 simp only [CZ, std, xOf, PXb, PXc, PXn, AL, e, Ct]
end Go.Px
end
section
namespace Go.Px
set_option maxRecDepth 100000
def pIs (L : Rows) (v : Int) (i : Nat) : Bool := atI L i 0 == v
def Me (s n : Int) (i : Nat) : Bool := s == (i : Int) + 1 || n == (i : Int) + 1
def It (L : Rows) (s n : Int) (i : Nat) : Bool := iLt 3 (atI L i 0) || (pIs L 1 i && !Me s n i)
def KI (L : Rows) (s n : Int) (i : Nat) : Bool := iLt 3 (atI L i 0) || !(pIs L 1 i == Me s n i)
def Qb (L : Rows) : Int := BR (pIs L 2) L.length
def ins (L : Rows) : Int := BR (pIs L 1) L.length
def two (s n : Int) : Int := cond (!(n == 0)) (IntKind.i64.wrap (cond (!(s == 0)) (IntKind.i64.wrap (0 + 1)) 0 + 1)) (cond (!(s == 0)) (IntKind.i64.wrap (0 + 1)) 0)
def UL (L : Rows) (s n wk k : Int) : Bool :=
 !Ae (It L s n) L.length 0 && ((btw s 0 k && btw n 0 k) && (!(s == n && !(s == 0)) && ((two s n == ins L && (!JP L || iLt 0 (two s n))) && Qb L == wk)))
def J6 (L : Rows) (s n wk : Int) : Bool :=
 !Ae (KI L s n) L.length 0 && (!((JP L && iLt (ins L) 1) || (!(s == 0) && s == n)) && wk == Qb L)
def WJ (L : Rows) : Nat → Bool
 | 0 => false
 | i + 1 => WJ L i || !(atI L i 0 == 0)
theorem V2 (L : Rows) : ∀ i, WJ L i = Ae (fun j => !(atI L j 0 == 0)) i 0
 | 0 => rfl
 | i + 1 => by rw [Ti, Nat.zero_add, ← V2 L i]; rfl
section
variable (N : Nat) (L14 L16 L17 L19 L24 : Rows) (b18 b20 : Bool) (x0 x1 x2 x3 x4 x5 x6 x7 x8 x9 x10 x11 x12 x13 x15 x21 x22 x23 x25 x26 x27 : Int)
theorem OT (k : Int) (hN : L14.length < N) (hl : L14.length ≤ 2097152) : CM N (lsI L14 L16 L17 L19 L24 b18 b20 x0 x1 x2 x3 x4 x5 x6 x7 x8 x9 x10 x11 x12 x13 x15 x21 x22 x23 x25 x26 x27 ++ [.int k]) = some [.bool (UL L14 x12 x13 x4 k)] := by
  simp only [lsI, List.cons_append, List.nil_append]
  show C4 (std (D3 N) N) (xOf _) = _
  have e : ∀ ls, D3 N 79 [] ls = AU N ls := fun ls => rfl
  simp only [C4, std, xOf, lsI, PXb, PXc, PXn, AL]
  refine Am (MU (len := L14.length) (fun i => [.int (BR (pIs L14 2) i), .int (BR (pIs L14 1) i), .bool (WJ L14 i), .int (i : Int)])
    (It L14 x12 x13) [.int 0, .bool false] [.int 1, .int (Qb L14), .int (ins L14), .bool (JP L14)] ?_ ?_ N hN) ?_
  · intro self
    simp only [PXb, PXc, PXn, AL, Bo, V2]
    rfl
  · intro i self hi
    simp only [PXb, PXc, AL, A0 (show i ≤ 1099511627776 by omega), BW hi, Az hi, Eg, MY (pIs L14 2) (show i ≤ 1099511627776 by omega), MY (pIs L14 1) (show i ≤ 1099511627776 by omega)]
    unfold It pIs Me
    simp only [BR, WJ]
    cases h3 : iLt 3 (atI L14 i 0) with
    | true => rfl
    | false =>
      cases h1 : atI L14 i 0 == 1 with
      | true =>
        rw [V5 h1]
        cases x12 == (i : Int) + 1 <;> cases x13 == (i : Int) + 1 <;> rfl
      | false => cases h2 : atI L14 i 0 == 2 <;> rfl
  · unfold UL
    simp only [e, Ct]
    cases Ae (It L14 x12 x13) L14.length 0 with
    | true => rfl
    | false =>
      simp only [PXb, PXc, PXn, AL]
      unfold two
      cases btw x12 0 k <;> cases btw x13 0 k <;> try rfl
      cases x12 == 0 <;> cases x13 == 0 <;> cases x12 == x13 <;> try rfl
theorem TD (hN : L14.length < N) (hl : L14.length ≤ 2097152) : Dg N (lsI L14 L16 L17 L19 L24 b18 b20 x0 x1 x2 x3 x4 x5 x6 x7 x8 x9 x10 x11 x12 x13 x15 x21 x22 x23 x25 x26 x27) = some [.bool (J6 L14 x12 x13 x4)] := by
  show FJ (std (GG N) N) (xOf (lsI ..)) = _
  have e : ∀ ls, GG N 133 [] ls = Eu N ls := fun ls => rfl
  have h70 := Um N L14 L16 L17 L19 L24 b18 b20 x0 x1 x2 x3 x4 x5 x6 x7 x8 x9 x10 x11 x12 x13 x15 x21 x22 x23 x25 x26 x27 hN hl
  simp only [lsI] at h70
  simp only [FJ, std, xOf, lsI, PXb, PXc, PXn, AL, e, h70]
  refine Am (MU (len := L14.length) (fun i => [.int (BR (pIs L14 2) i), .int (BR (pIs L14 1) i), .int (i : Int)])
    (KI L14 x12 x13) [.int 0, .bool false] [.int 1, .int (Qb L14), .int (ins L14)] ?_ ?_ N hN) ?_
  · intro self
    simp only [PXb, PXc, PXn, AL, Bo]
    rfl
  · intro i self hi
    simp only [PXb, PXc, AL, A0 (show i ≤ 1099511627776 by omega), BW hi, Az hi, Eg, MY (pIs L14 2) (show i ≤ 1099511627776 by omega), MY (pIs L14 1) (show i ≤ 1099511627776 by omega)]
    unfold KI pIs Me
    simp only [BR]
    cases h3 : iLt 3 (atI L14 i 0) with
    | true => rfl
    | false =>
      cases h1 : atI L14 i 0 == 1 with
      | true =>
        rw [V5 h1]
        cases x12 == (i : Int) + 1 <;> cases x13 == (i : Int) + 1 <;> rfl
      | false => cases h2 : atI L14 i 0 == 2 <;> cases x12 == (i : Int) + 1 <;> cases x13 == (i : Int) + 1 <;> rfl
  · unfold J6
    cases Ae (KI L14 x12 x13) L14.length 0 with
    | true => rfl
    | false =>
      simp only [PXb, PXc, PXn, AL]
      cases JP L14 <;> cases h : iLt (ins L14) 1 <;> cases x12 == 0 <;> cases x12 == x13 <;> first | rfl | (simp [UI, AF, h])
end
end Go.Px
end
section
namespace Go.Px
set_option maxRecDepth 100000
theorem Yb (s n : Int) : two s n = cond (!(s == 0)) 1 0 + cond (!(n == 0)) 1 0 := by
 unfold two
 cases s == 0 <;> cases n == 0 <;> rfl
theorem YK {s n : Int} {len : Nat} (h1 : 0 ≤ s ∧ s ≤ (len : Int)) (h2 : 0 ≤ n ∧ n ≤ (len : Int)) (hd : (s == n && !(s == 0)) = false) : two s n = BR (Me s n) len := by
 have hs : iLe s (len : Int) = true := by simp only [iLe, decide_eq_true_eq]; omega
 have hn : iLe n (len : Int) = true := by simp only [iLe, decide_eq_true_eq]; omega
 unfold Me
 rw [Ws (p := fun i => s == (i : Int) + 1) (q := fun i => n == (i : Int) + 1) len (fun j _ hp => by
  have e1 : s = (j : Int) + 1 := by simpa using hp
  show (n == (j : Int) + 1) = false
  rw [beq_eq_false_iff_ne]
  intro e2
  have e3 : (s == n) = true := by rw [beq_iff_eq]; omega
  have e4 : (s == 0) = false := by rw [beq_eq_false_iff_ne]; omega
  rw [e3, e4] at hd; cases hd), Uj s len h1.1, Uj n len h2.1, hs, hn, Bool.and_true, Bool.and_true, Yb]
theorem Yh (x : Int) : iLt 0 x = !iLt x 1 := by
 unfold iLt
 rw [Bool.eq_iff_iff]
 simp only [decide_eq_true_eq, Bool.not_eq_true', decide_eq_false_iff_not]
 omega
theorem Xk {L : Rows} {s n : Int} (h1 : 0 ≤ s ∧ s ≤ (L.length : Int)) (h2 : 0 ≤ n ∧ n ≤ (L.length : Int)) (hd : (s == n && !(s == 0)) = false) :
    (!Ae (It L s n) L.length 0 && two s n == ins L) = !Ae (KI L s n) L.length 0 := by
  have h2c := YK h1 h2 hd
  rw [Bool.eq_iff_iff]
  simp only [Bool.and_eq_true, Bool.not_eq_true', Mk, beq_iff_eq]
  constructor
  · intro ⟨ha, hb⟩ j _ hj
    have hm : ∀ j, j < L.length → pIs L 1 j = true → Me s n j = true := fun j hj hp => by
      have := ha j (Nat.zero_le _) (by omega)
      unfold It at this
      rw [hp] at this
      simp only [Bool.or_eq_false_iff, Bool.true_and, Bool.not_eq_false'] at this
      exact this.2
    have he := XM L.length hm (by rw [← h2c, hb]; rfl) j (by omega)
    have := ha j (Nat.zero_le _) hj
    unfold It at this
    unfold KI
    rw [Bool.or_eq_false_iff] at this ⊢
    exact ⟨this.1, by rw [he]; simp⟩
  · intro ha
    have hm : ∀ j, j < L.length → pIs L 1 j = Me s n j := fun j hj => by
      have := ha j (Nat.zero_le _) (by omega)
      unfold KI at this
      rw [Bool.or_eq_false_iff] at this
      simpa using this.2
    refine ⟨fun j h0 hj => ?_, ?_⟩
    · have := ha j h0 hj
      unfold KI at this
      unfold It
      rw [Bool.or_eq_false_iff] at this ⊢
      refine ⟨this.1, ?_⟩
      rw [hm j (by omega)]
      cases Me s n j <;> rfl
    · rw [h2c]
      exact (TW L.length hm).symm
theorem Y3 (L : Rows) (s n wk k : Int) (hk : (L.length : Int) = k) : UL L s n wk k = (btw s 0 k && btw n 0 k && J6 L s n wk) := by
 subst hk
 unfold UL J6
 cases hs : btw s 0 (L.length : Int) with
 | false => simp only [Bool.false_and, Bool.and_false]
 | true =>
  cases hn : btw n 0 (L.length : Int) with
  | false => simp only [Bool.false_and, Bool.and_false]
  | true =>
   have h1 : 0 ≤ s ∧ s ≤ (L.length : Int) := by simpa [btw, iLe] using hs
   have h2 : 0 ≤ n ∧ n ≤ (L.length : Int) := by simpa [btw, iLe] using hn
   simp only [Bool.true_and]
   cases hd : (s == n && !(s == 0)) with
   | true =>
    have : (!(s == 0) && s == n) = true := by rw [Bool.and_comm]; exact hd
    rw [this]
    simp only [Bool.or_true, Bool.not_true, Bool.false_and, Bool.and_false]
   | false =>
    have : (!(s == 0) && s == n) = false := by rw [Bool.and_comm]; exact hd
    rw [this, ← Xk h1 h2 hd]
    simp only [Bool.or_false, Bool.not_false, Bool.true_and]
    rw [show (wk == Qb L) = (Qb L == wk) from BEq.comm]
    cases hA : Ae (It L s n) L.length 0 with
    | true => rfl
    | false =>
     cases hB : two s n == ins L with
     | false => rfl
     | true =>
      rw [beq_iff_eq.1 hB, Yh]
      simp only [Bool.true_and, Bool.not_false, Bool.not_and]
end Go.Px
end
section
namespace Go.Px
set_option maxRecDepth 100000
def CH (v : Int) : Bool := !btw v 0 1000000000
def Qn (x1 x3 x5 x6 x7 x8 x9 x10 x21 x23 x25 x26 : Int) : Rows := [[.int x1], [.int x3], [.int x5], [.int x6], [.int x7], [.int x8], [.int x9], [.int x10], [.int x21], [.int x23], [.int x25], [.int x26]]
section
variable (N : Nat) (L14 L16 L17 L19 L24 : Rows) (b18 b20 : Bool) (x0 x1 x2 x3 x4 x5 x6 x7 x8 x9 x10 x11 x12 x13 x15 x21 x22 x23 x25 x26 x27 : Int)
theorem Ol (hN : 2097152 < N) (hl : L19.length ≤ 1048576) : CJ N (lsI L14 L16 L17 L19 L24 b18 b20 x0 x1 x2 x3 x4 x5 x6 x7 x8 x9 x10 x11 x12 x13 x15 x21 x22 x23 x25 x26 x27) = some [.bool (!(JV CH (Qn x1 x3 x5 x6 x7 x8 x9 x10 x21 x23 x25 x26) || JV CH L19))] := by
 show C5 (std (D2 N) N) (xOf (lsI ..)) = _
 have e : ∀ ls, D2 N 120 [] ls = Bt N ls := fun ls => rfl
 rw [← Xr]
 simp only [C5, std, xOf, lsI, PXb, PXc, PXn, AL, Qn]
 generalize hM : ([PV.int x1] :: [PV.int x3] :: [PV.int x5] :: [PV.int x6] :: [PV.int x7] :: [PV.int x8] :: [PV.int x9] :: [PV.int x10] :: [PV.int x21] :: [PV.int x23] :: [PV.int x25] :: [PV.int x26] :: L19 : Rows) = M
 have hM2 : M.length ≤ 2097152 := by rw [← hM]; simp only [List.length_cons]; omega
 rw [YF (n := M.length) (by omega) (by omega)]
 simp only [PXb, PXc, PXn, AL]
 rw [Option.bind_assoc]
 refine Am (Fm (len := M.length) (MP fun i => CH (atI M i 0)) ?_ ?_ M.length 0 N (by omega) (by omega)) ?_
 ·intro self
  simp only [PXb, PXc, PXn, AL, Bo]
 ·intro i self hi
  simp only [PXb, PXc, PXn, AL, A0 (show i ≤ 1099511627776 by omega), BW hi, Az hi, MP, Eg, e, Mf, CH]
  cases btw (atI M i 0) 0 1000000000 <;> rfl
 ·unfold JV
  rw [← Ra]
  unfold Wn
  cases F3 (MP fun i => CH (atI M i 0)) M.length 0 <;> rfl
end
def Fo (a3 x2 : Int) : Bool := cond (a3 == 0) (x2 == 0) (btw x2 1 a3)
def PG (s : ByteArray) (a1 a2 a3 a4 a5 a6 a7 a9 a10 a11 a12 : Int) (La L14 L16 L17 L19 L24 : Rows) (x0 x1 x2 x3 x4 x5 x6 x7 x8 x9 x10 x11 x12 x13 x15 x21 x22 x23 x25 x26 x27 : Int) : Bool :=
  B1 s a1 a2 a3 a4 a5 a6 a7 a9 a10 a11 a12 La == 0 && (btw x0 1 2 && ((L14.length : Int) == a1 && ((L19.length : Int) == a1 && ((L24.length : Int) == a1 && (!iLt 5 x27 &&
    (btw x12 0 a1 && (btw x13 0 a1 && (J6 L14 x12 x13 x4 && (btw x15 0 a1 && (btw x22 0 a1 && (Dn L16 a1 && (Dn L17 a1 && (Fo a3 x2 && (btw x11 0 (IntKind.i64.wrap (a4 - 1)) &&
      (!JV CH (Qn x1 x3 x5 x6 x7 x8 x9 x10 x21 x23 x25 x26) && !JV CH L19)))))))))))))))
theorem Wj {s : ByteArray} {a1 a2 a3 a4 a5 a6 a7 a9 a10 a11 a12 : Int} {La : Rows} (h : (B1 s a1 a2 a3 a4 a5 a6 a7 a9 a10 a11 a12 La == 0) = true) : 0 ≤ a3 := by
 unfold B1 at h
 cases hn : E9 s with
 | false => rw [hn] at h; exact absurd h Bool.false_ne_true
 | true =>
  cases hr : Cx a1 a2 a3 a4 a5 a6 a7 a9 a10 a11 a12 with
  | false => rw [hn, hr] at h; exact absurd h Bool.false_ne_true
  | true =>
   unfold Cx at hr
   simp only [Bool.and_eq_true] at hr
   have := hr.1.1.1.1.1.1.1.1.2
   unfold btw iLe at this
   simp only [Bool.and_eq_true, decide_eq_true_eq] at this
   omega
theorem Vw {a : Int} (h : 0 ≤ a) : iLt 0 a = !(a == 0) := by
 unfold iLt
 rw [Bool.eq_iff_iff]
 simp only [decide_eq_true_eq, Bool.not_eq_true', beq_eq_false_iff_ne]
 omega
section
variable (N : Nat) (s : ByteArray) (a1 a2 a3 a4 a5 a6 a7 a9 a10 a11 a12 : Int) (a8 : Bool) (La : Rows) (L14 L16 L17 L19 L24 : Rows) (b18 b20 : Bool) (x0 x1 x2 x3 x4 x5 x6 x7 x8 x9 x10 x11 x12 x13 x15 x21 x22 x23 x25 x26 x27 : Int)
theorem Qm (hN : 2097152 < N) (hs : s.size ≤ 1048576) (h14 : L14.length ≤ 1048576) (h16 : L16.length ≤ 1048576) (h17 : L17.length ≤ 1048576) (h19 : L19.length ≤ 1048576) : BB N ([.str s, .int a1, .int a2, .int a3, .int a4, .int a5, .int a6, .int a7, .bool a8, .int a9, .int a10, .int a11, .int a12, .rows La] ++ lsI L14 L16 L17 L19 L24 b18 b20 x0 x1 x2 x3 x4 x5 x6 x7 x8 x9 x10 x11 x12 x13 x15 x21 x22 x23 x25 x26 x27) = some [.bool (PG s a1 a2 a3 a4 a5 a6 a7 a9 a10 a11 a12 La L14 L16 L17 L19 L24 x0 x1 x2 x3 x4 x5 x6 x7 x8 x9 x10 x11 x12 x13 x15 x21 x22 x23 x25 x26 x27)] := by
 simp only [lsI, List.cons_append, List.nil_append]
 show EF (std (BX N) N) (xOf _) = _
 have e1 : ∀ ls, BX N 40 [] ls = AX N ls := fun ls => rfl
 have e2 : ∀ ls, BX N 79 [] ls = AU N ls := fun ls => rfl
 have e3 : ∀ ls, BX N 80 [] ls = CM N ls := fun ls => rfl
 have e4 : ∀ ls, BX N 81 [] ls = Bs N ls := fun ls => rfl
 have e5 : ∀ ls, BX N 82 [] ls = CJ N ls := fun ls => rfl
 have l54 := OT N L14 L16 L17 L19 L24 b18 b20 x0 x1 x2 x3 x4 x5 x6 x7 x8 x9 x10 x11 x12 x13 x15 x21 x22 x23 x25 x26 x27 a1 (by omega) (by omega)
 have l56 := Ol N L14 L16 L17 L19 L24 b18 b20 x0 x1 x2 x3 x4 x5 x6 x7 x8 x9 x10 x11 x12 x13 x15 x21 x22 x23 x25 x26 x27 (by omega) (by omega)
 simp only [lsI, List.cons_append, List.nil_append] at l54 l56
 simp only [EF, std, xOf, PXb, PXc, PXn, AL, e1, e2, e3, e4, e5, LD N s _ _ _ _ _ _ _ _ _ _ _ _ _ hN hs, Ct, l54, l56, F1 N L16 _ (by omega) (by omega), F1 N L17 _ (by omega) (by omega)]
 unfold PG Fo
 cases hc : B1 s a1 a2 a3 a4 a5 a6 a7 a9 a10 a11 a12 La == 0 <;> try rfl
 cases btw x0 1 2 <;> try rfl
 cases h14 : (L14.length : Int) == a1 <;> try rfl
 cases (L19.length : Int) == a1 <;> try rfl
 cases (L24.length : Int) == a1 <;> try rfl
 cases iLt 5 x27 <;> try rfl
 rw [Y3 L14 x12 x13 x4 a1 (beq_iff_eq.1 h14)]
 cases btw x12 0 a1 <;> try rfl
 cases btw x13 0 a1 <;> try rfl
 cases J6 L14 x12 x13 x4 <;> try rfl
 cases btw x15 0 a1 <;> try rfl
 cases btw x22 0 a1 <;> try rfl
 cases Dn L16 a1 <;> try rfl
 cases Dn L17 a1 <;> try rfl
 cases a3 == 0 <;> cases x2 == 0 <;> cases btw x2 1 a3 <;> rfl
theorem Uw (hN : 2097152 < N) (hs : s.size ≤ 1048576) (h14 : L14.length ≤ 1048576) (h16 : L16.length ≤ 1048576) (h17 : L17.length ≤ 1048576) (h19 : L19.length ≤ 1048576) : Dv N ([.str s, .int a1, .int a2, .int a3, .int a4, .int a5, .int a6, .int a7, .bool a8, .int a9, .int a10, .int a11, .int a12, .rows La] ++ lsI L14 L16 L17 L19 L24 b18 b20 x0 x1 x2 x3 x4 x5 x6 x7 x8 x9 x10 x11 x12 x13 x15 x21 x22 x23 x25 x26 x27) = some [.bool (PG s a1 a2 a3 a4 a5 a6 a7 a9 a10 a11 a12 La L14 L16 L17 L19 L24 x0 x1 x2 x3 x4 x5 x6 x7 x8 x9 x10 x11 x12 x13 x15 x21 x22 x23 x25 x26 x27)] := by
 simp only [lsI, List.cons_append, List.nil_append]
 show HT (std (Cd N) N) (xOf _) = _
 have e1 : ∀ ls, Cd N 45 [] ls = Bw N ls := fun ls => rfl
 have e2 : ∀ ls, Cd N 121 [] ls = EV N ls := fun ls => rfl
 have e3 : ∀ ls, Cd N 123 [] ls = Dg N ls := fun ls => rfl
 have e4 : ∀ ls, Cd N 122 [] ls = Hj N ls := fun ls => rfl
 have l60 := TD N L14 L16 L17 L19 L24 b18 b20 x0 x1 x2 x3 x4 x5 x6 x7 x8 x9 x10 x11 x12 x13 x15 x21 x22 x23 x25 x26 x27 (by omega) (by omega)
 simp only [lsI, List.cons_append, List.nil_append] at l60
 simp only [HT, std, xOf, PXb, PXc, PXn, AL, e1, e2, e3, e4, ON N s _ _ _ _ _ _ _ _ _ _ _ _ _ hN hs, TJ, l60, SJ N L16 _ (by omega) (by omega), SJ N L17 _ (by omega) (by omega)]
 unfold PG Fo
 cases hc : B1 s a1 a2 a3 a4 a5 a6 a7 a9 a10 a11 a12 La == 0 <;> try rfl
 rw [Vw (Wj hc)]
 cases btw x0 1 2 <;> try rfl
 cases h14 : (L14.length : Int) == a1 <;> try rfl
 cases (L19.length : Int) == a1 <;> try rfl
 cases (L24.length : Int) == a1 <;> try rfl
 cases iLt 5 x27 <;> try rfl
 cases btw x12 0 a1 <;> try rfl
 cases btw x13 0 a1 <;> try rfl
 cases J6 L14 x12 x13 x4
 ·simp only [PXb, PXc, PXn, AL]
 cases btw x15 0 a1 <;> try rfl
 cases btw x22 0 a1 <;> try rfl
 cases Dn L16 a1 <;> try rfl
 cases Dn L17 a1 <;> try rfl
 have ho : (a3 == 0 && !(x2 == 0) || !(a3 == 0) && (a3 == 0 && !(x2 == 0) || !!(a3 == 0) || !btw x2 1 a3) || !btw x11 0 (IntKind.i64.wrap (a4 - 1))) = !(Fo a3 x2 && btw x11 0 (IntKind.i64.wrap (a4 - 1))) := by
  unfold Fo
  cases a3 == 0 <;> cases x2 == 0 <;> cases btw x2 1 a3 <;> cases btw x11 0 (IntKind.i64.wrap (a4 - 1)) <;> rfl
 rw [ho]
 show _ = some [PV.bool (Fo a3 x2 && (btw x11 0 (IntKind.i64.wrap (a4 - 1)) && _))]
 rw [← Bool.and_assoc]
 cases Fo a3 x2 && btw x11 0 (IntKind.i64.wrap (a4 - 1)) <;> try rfl
 simp only [PXb, PXc, PXn, AL]
 change (Eo (fun s11 c11 => cond (iLt (pvI (AF c11 0)) ((Qn x1 x3 x5 x6 x7 x8 x9 x10 x21 x23 x25 x26).length : Int)) (cond (iIn (pvI (AF c11 0)) ((Qn x1 x3 x5 x6 x7 x8 x9 x10 x21 x23 x25 x26).length : Int)) (cond (!btw (pvI (AM (Qn x1 x3 x5 x6 x7 x8 x9 x10 x21 x23 x25 x26) (pvI (AF c11 0)).toNat 0)) 0 1000000000) (some [PV.int 0, PV.bool false]) (s11 [Leaf.int (IntKind.i64.wrap (pvI (AF c11 0) + 1))])) none) (some [PV.int 1])) N [PV.int 0]).bind _ = _
 generalize hM : Qn x1 x3 x5 x6 x7 x8 x9 x10 x21 x23 x25 x26 = M
 have hM2 : M.length = 12 := by rw [← hM]; rfl
 refine Am (CC (len := M.length) (fun i => CH (atI M i 0)) [.bool false] ?_ ?_ N (by omega)) ?_
 ·intro self
  simp only [PXb, PXc, PXn, AL, Bo]
 ·intro i self hi
  simp only [PXb, PXc, PXn, AL, A0 (show i ≤ 1099511627776 by omega), BW hi, Az hi, Eg, CH]
 ·show _ = some [PV.bool (!Ae (fun i => CH (atI M i 0)) M.length 0 && _)]
  cases Ae (fun i => CH (atI M i 0)) M.length 0 <;> try rfl
  refine Am (CC (len := L19.length) (fun i => CH (atI L19 i 0)) [.bool false] ?_ ?_ N (by omega)) ?_
  ·intro self
   simp only [PXb, PXc, PXn, AL, Bo]
  ·intro i self hi
   simp only [PXb, PXc, PXn, AL, A0 (show i ≤ 1099511627776 by omega), BW hi, Az hi, Eg, CH]
  ·show _ = some [PV.bool (!Ae (fun i => CH (atI L19 i 0)) L19.length 0)]
   cases Ae (fun i => CH (atI L19 i 0)) L19.length 0 <;> rfl
end
end Go.Px
end
section
namespace Go.Px
set_option maxRecDepth 100000
theorem Wa {c : Int} {n : Nat} (hc : 0 ≤ c) : iRg 0 (cond (iLt c (n : Int)) c (n : Int)) (n : Int) = true := by
 cases h : iLt c (n : Int) with
 | true => simp only [iLt, decide_eq_true_eq] at h; simp only [cond_true, iRg, decide_eq_true_eq]; omega
 | false => simp only [cond_false, iRg, decide_eq_true_eq]; omega
def cut (L : Rows) (c : Int) : Rows := (L.take (cond (iLt c (L.length : Int)) c (L.length : Int)).toNat).drop (0 : Int).toNat
def X3 (s : ByteArray) (c : Int) : ByteArray := s.extract (0 : Int).toNat (cond (iLt c (s.size : Int)) c (s.size : Int)).toNat
theorem X5 (s : ByteArray) (c : Int) : (X3 s c).size ≤ s.size := by
 unfold X3
 rw [ByteArray.size_extract]
 omega
end Go.Px
end
section
namespace Go.Px
set_option maxRecDepth 100000
def Ii (r : Rul) : Int := B1 r.name r.side r.innings r.overs r.balls r.quota r.wide r.noball r.newball r.followon r.reviews r.outside r.power
theorem Tu {N : Nat} {r1 r2 r3 r4 r5 r6 r7 r9 r10 r11 r12 : Int} {r8 : Bool} {r0 : ByteArray} {r13 : Rows} (hN : 2097152 < N) (hs : r0.size ≤ 1048576) : AX N [.str r0, .int r1, .int r2, .int r3, .int r4, .int r5, .int r6, .int r7, .bool r8, .int r9, .int r10, .int r11, .int r12, .rows r13] = some [.int (Ii (⟨r0, r1, r2, r3, r4, r5, r6, r7, r8, r9, r10, r11, r12, r13⟩ : Rul))] := by
 exact LD N _ _ _ _ _ _ _ _ _ _ _ _ _ _ hN hs
theorem Vq {N : Nat} {r1 r2 r3 r4 r5 r6 r7 r9 r10 r11 r12 : Int} {r8 : Bool} {r0 : ByteArray} {r13 : Rows} (hN : 2097152 < N) (hs : r0.size ≤ 1048576) : Bw N [.str r0, .int r1, .int r2, .int r3, .int r4, .int r5, .int r6, .int r7, .bool r8, .int r9, .int r10, .int r11, .int r12, .rows r13] = some [.int (Ii (⟨r0, r1, r2, r3, r4, r5, r6, r7, r8, r9, r10, r11, r12, r13⟩ : Rul))] := by
 exact ON N _ _ _ _ _ _ _ _ _ _ _ _ _ _ hN hs
end Go.Px
end
section
namespace Go.Px
set_option maxRecDepth 100000
structure Cre where
 batter : Int
 wides : Int
 noballs : Int
 byes : Int
 legbyes : Int
 bowler : Int
 counts : Bool
 faced : Bool
 wicket : Bool
 swap : Bool
def Cre.ls (c : Cre) : List PV := [.int c.batter, .int c.wides, .int c.noballs, .int c.byes, .int c.legbyes, .int c.bowler, .bool c.counts, .bool c.faced, .bool c.wicket, .bool c.swap]
end Go.Px
end
