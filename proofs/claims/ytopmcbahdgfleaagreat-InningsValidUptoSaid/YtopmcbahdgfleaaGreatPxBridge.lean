/-
Px: the arguments of a statement, read as pure data; the statement out of a contract.
-/
import Derived.Test.YtopmcbahdgfleaaGreatPxMove
import Derived.ProofKit
import Derived.OpenShut
import Derived.JoinedCond
import Derived.WideKeyArgs
namespace Go.Px
open Go.ChangeShapes Go.WideShapes Go.ChangeAt Go.RowKit
set_option linter.unusedVariables false
set_option linter.unusedSimpArgs false

/-- Data within bounds. -/
inductive PVok (P : Program) (B : Nat) : TypeId → PV → Prop
  | int {t : TypeId} {k : IntKind} {n : Int} (h : lkOf P t = .int k) (hw : (Lit.int k n).wf = true) : PVok P B t (.int n)
  | bool {t : TypeId} {b : Bool} (h : lkOf P t = .bool) : PVok P B t (.bool b)
  | str {t : TypeId} {s : ByteArray} (h : lkOf P t = .str) (hs : s.size ≤ B) : PVok P B t (.str s)
  | sl {t e : TypeId} {ts : List TypeId} {l : Rows} (h : lkOf P t = .sl e) (hts : tysOf P e = some ts) (hl : l.length ≤ B) (hr : ∀ r ∈ l, r.length = ts.length)
      (hv : ∀ i j t', i < l.length → ts[j]? = some t' → PVok P B t' (pvAt l i j)) : PVok P B t (.rows l)

def PVoks (P : Program) (B : Nat) : List TypeId → List PV → Prop
  | [], [] => True
  | t :: ts, p :: ps => PVok P B t p ∧ PVoks P B ts ps
  | _, _ => False

/-- Cells that read as data. -/
def Rds (P : Program) (w : World) (B : Nat) : List TypeId → List Value → List PV → Prop
  | [], [], [] => True
  | t :: ts, v :: vs, p :: ps => (Rep P w (fun _ => True) t v p ∧ PVok P B t p) ∧ Rds P w B ts vs ps
  | _, _, _ => False

/-- What a measure of readings is asked for. -/
structure Bulk {H : Type} (f : DataW H → Nat) : Prop where
  str : ∀ b, b.length ≤ f (.lit (.string b))
  len : ∀ e s, e.length ≤ f (.slice e s)
  elem : ∀ e s d, d ∈ e → f d ≤ f (.slice e s)
  part : ∀ ps d, d ∈ ps → f d ≤ f (.agg ps)

def fieldsGood (P : Program) (m : Nat) : Nat → List Field → Bool
  | _, [] => true
  | off, f :: fs => Nat.beq f.offset off && (match cellTys P m f.type with | some l => Nat.beq l.length (P.cellsOf f.type) | none => false) && fieldsGood P m (off + P.cellsOf f.type) fs

def sized (P : Program) (m : Nat) (t : TypeId) : Bool := match cellTys P m t with
  | some l => Nat.beq l.length (P.cellsOf t)
  | none => false

/-- Types of pure data, laid out as they should be. -/
def tyGood (P : Program) : Nat → Nat → TypeId → Bool
  | 0, _, _ => false
  | n + 1, m, t => match P.underlying t with
    | some .bool | some (.int _) | some .string => true
    | some (.slice e) => (tysOf P e).isSome && tyGood P n tyDepth e
    | some (.struct fs) => match m with
      | 0 => false
      | m + 1 => sized P (m + 1) t && (fieldsGood P m 0 fs.toList && fs.toList.all fun f => tyGood P n m f.type)
    | some (.array k e) => match m with
      | 0 => false
      | m + 1 => sized P (m + 1) t && (sized P m e && tyGood P n m e)
    | _ => false

section
variable {P : Program} {w w' : World} {B : Nat} {H : Type} {enc : TypeId × Value → H}

theorem Rds.len : ∀ {ts : List TypeId} {vs : List Value} {ps : List PV}, Rds P w B ts vs ps → vs.length = ts.length ∧ ps.length = ts.length
  | [], [], [], _ => ⟨rfl, rfl⟩
  | t :: ts, v :: vs, p :: ps, h => by obtain ⟨h1, h2⟩ := Rds.len h.2; simp [h1, h2]
  | [], [], _ :: _, h => h.elim
  | [], _ :: _, _, h => h.elim
  | _ :: _, [], _, h => h.elim
  | _ :: _, _ :: _, [], h => h.elim

theorem Rds.app : ∀ {ts ts' : List TypeId} {vs vs' : List Value} {ps ps' : List PV}, Rds P w B ts vs ps → Rds P w B ts' vs' ps' → Rds P w B (ts ++ ts') (vs ++ vs') (ps ++ ps')
  | [], _, [], _, [], _, _, h => h
  | t :: ts, _, v :: vs, _, p :: ps, _, h, h' => ⟨h.1, Rds.app h.2 h'⟩
  | [], _, [], _, _ :: _, _, h, _ => h.elim
  | [], _, _ :: _, _, _, _, h, _ => h.elim
  | _ :: _, _, [], _, _, _, h, _ => h.elim
  | _ :: _, _, _ :: _, _, [], _, h, _ => h.elim

theorem Rds.get : ∀ {ts : List TypeId} {vs : List Value} {ps : List PV}, Rds P w B ts vs ps → ∀ {j : Nat} {t : TypeId}, ts[j]? = some t → ∃ v p, vs[j]? = some v ∧ ps[j]? = some p ∧ Rep P w (fun _ => True) t v p ∧ PVok P B t p
  | [], [], [], _, j, t, h => by simp at h
  | u :: ts, v :: vs, p :: ps, h, j, t, hj => by
    cases j with
    | zero => simp at hj; subst hj; exact ⟨v, p, rfl, rfl, h.1.1, h.1.2⟩
    | succ j =>
      obtain ⟨v', p', h1, h2, h3⟩ := Rds.get h.2 (j := j) (by simpa using hj)
      exact ⟨v', p', by simpa using h1, by simpa using h2, h3⟩
  | [], [], _ :: _, h, _, _, _ => h.elim
  | [], _ :: _, _, h, _, _, _ => h.elim
  | _ :: _, [], _, h, _, _, _ => h.elim
  | _ :: _, _ :: _, [], h, _, _, _ => h.elim

theorem cell_lt {a : Addr} {v : Value} (h : w.cell? a = some v) : a.block < w.heap.size := by
  rcases Nat.lt_or_ge a.block w.heap.size with h' | h'
  · exact h'
  · unfold World.cell? at h
    simp [Array.getElem?_eq_none h'] at h

theorem catO_cons {a : Option (List TypeId)} {r : List (Option (List TypeId))} {ts : List TypeId} (h : catO (a :: r) = some ts) : ∃ l ts', a = some l ∧ catO r = some ts' ∧ ts = l ++ ts' := by
  cases a with
  | none => simp [catO] at h
  | some l =>
    simp only [catO] at h
    cases hr : catO r with
    | none => rw [hr] at h; cases h
    | some ts' => rw [hr] at h; cases h; exact ⟨l, ts', rfl, rfl, rfl⟩

theorem rds_of_trod {f : DataW H → Nat} (hb : Bulk f) : ∀ (n : Nat) (t : TypeId) (cs : List Value) (x : DataW H × List MemPlace), DataW.trod enc P w 0 (fun _ => true) true n t cs = some x → f x.1 ≤ B →
    ∀ (k m : Nat) (ts : List TypeId), tyGood P k m t = true → cellTys P m t = some ts → ∃ ps, Rds P w B ts cs ps := by
  intro n
  induction n with
  | zero => intro t cs x h; simp [DataW.trod] at h
  | succ n ih =>
    intro t cs x h hB k m ts hg hc
    cases k with
    | zero => simp [tyGood] at hg
    | succ k =>
    cases m with
    | zero => simp [cellTys] at hc
    | succ m =>
    unfold tyGood at hg
    split at hg
    · -- bool
      rename_i hu
      obtain ⟨b, rfl, rfl⟩ := DataW.trod_bool hu h
      simp only [cellTys, hu] at hc; cases hc
      have hl : lkOf P t = .bool := by simp [lkOf, hu]
      exact ⟨[.bool b], ⟨.bool hl, .bool hl⟩, trivial⟩
    · rename_i kk hu
      obtain ⟨b, rfl, rfl, hw⟩ := DataW.trod_int hu h
      simp only [cellTys, hu] at hc; cases hc
      have hl : lkOf P t = .int kk := by simp [lkOf, hu]
      exact ⟨[.int b], ⟨.int hl, .int hl hw⟩, trivial⟩
    · rename_i hu
      obtain ⟨b, rfl, rfl, hw⟩ := DataW.trod_string hu h
      simp only [cellTys, hu] at hc; cases hc
      have hl : lkOf P t = .str := by simp [lkOf, hu]
      refine ⟨[.str b], ⟨.str hl, .str hl ?_⟩, trivial⟩
      have := hb.str b.data.toList
      simp only at hB
      have hsz : b.size = b.data.toList.length := by simp only [ByteArray.size, Array.length_toList]
      omega
    · rename_i e hu
      simp only [cellTys, hu] at hc; cases hc
      have hl : lkOf P t = .sl e := by simp [lkOf, hu]
      simp only [Bool.and_eq_true] at hg
      obtain ⟨te, hte⟩ := Option.isSome_iff_exists.1 hg.1
      obtain ⟨hcell0, hpos⟩ : cellTys P tyDepth e = some te ∧ te.length = P.cellsOf e ∧ 0 < te.length := by
        unfold tysOf at hte
        split at hte
        · rename_i l hl
          split at hte
          · rename_i hb2
            cases hte
            simp only [Bool.and_eq_true] at hb2
            exact ⟨hl, natBeq_iff.1 hb2.1, natBlt_iff.1 hb2.2⟩
          · cases hte
        · cases hte
      rcases DataW.trod_slice hu h with ⟨rfl, rfl⟩ | ⟨a, len, cap, elems, rest, n', hn, rfl, rfl, hbase, hlc, hcm, hel, hcells, _, _⟩
      · refine ⟨[.rows []], ⟨?_, ?_⟩, trivial⟩
        · exact .sl (fun _ _ => undef) hl hte rfl (fun r hr => by simp at hr) (Nat.le_refl 0) (.inl rfl) (fun i j t' hi => by omega)
        · exact .sl hl hte (Nat.zero_le _) (fun r hr => by simp at hr) (fun i j t' hi => by simp at hi)
      · cases hn
        simp only at hB
        have hrow : ∀ i, i < len → ∃ (row : List Value) (ps : List PV), w.cells? 0 (a.add (i * P.cellsOf e)) (P.cellsOf e) = some row ∧ Rds P w B te row ps := fun i hi => by
          have h1 := hcells i hi
          have hi2 : i < elems.length := by omega
          rw [List.getElem?_eq_getElem hi2] at h1
          obtain ⟨row, h2, h3⟩ := Option.bind_eq_some_iff.1 h1
          obtain ⟨ps, h4⟩ := ih e row _ h3 (Nat.le_trans (hb.elem (elems.map (·.1)) (rest.map (·.1)) _ (List.mem_map.2 ⟨_, List.getElem_mem hi2, rfl⟩)) hB) k tyDepth te hg.2 hcell0
          exact ⟨row, ps, h2, h4⟩
        have hch : ∃ (g : Nat → List PV), ∀ i, i < len → ∃ row, w.cells? 0 (a.add (i * P.cellsOf e)) (P.cellsOf e) = some row ∧ Rds P w B te row (g i) := by
          classical
          refine ⟨fun i => if h : ∃ ps, ∃ row, w.cells? 0 (a.add (i * P.cellsOf e)) (P.cellsOf e) = some row ∧ Rds P w B te row ps then Classical.choose h else [], fun i hi => ?_⟩
          obtain ⟨row, ps, h1, h2⟩ := hrow i hi
          have hx : ∃ ps, ∃ row, w.cells? 0 (a.add (i * P.cellsOf e)) (P.cellsOf e) = some row ∧ Rds P w B te row ps := ⟨ps, row, h1, h2⟩
          simp only [hx, dif_pos]
          exact Classical.choose_spec hx
        obtain ⟨g, hgi⟩ := hch
        have hrow : ∀ i, i < len → rowAt ((List.range len).map g) i = g i := fun i hi => by
          unfold rowAt
          rw [List.getD_eq_getElem?_getD, List.getElem?_map, List.getElem?_range hi]; rfl
        have hrl : ∀ r ∈ (List.range len).map g, r.length = te.length := fun r hr => by
          obtain ⟨i, hi, rfl⟩ := List.mem_map.1 hr
          obtain ⟨row, _, h2⟩ := hgi i (List.mem_range.1 hi)
          exact h2.len.2
        have hpv : ∀ (i j : Nat) (p : PV), i < len → (g i)[j]? = some p → pvAt ((List.range len).map g) i j = p := fun i j p hi hj => by
          unfold pvAt cellAt
          rw [hrow i hi, List.getD_eq_getElem?_getD, hj]; rfl
        have hcellv : ∀ (i j : Nat) (row : List Value) (v : Value), w.cells? 0 (a.add (i * P.cellsOf e)) (P.cellsOf e) = some row → row[j]? = some v → w.cell? ((a.add (i * P.cellsOf e)).add j) = some v := fun i j row v h1 h2 => by
          obtain ⟨_, h3, h4⟩ := World.cells?_some h1
          have hj := (List.getElem?_eq_some_iff.1 h2).1
          rw [h4 j (by omega)]; exact h2
        obtain ⟨b, off, spot⟩ := a
        have hspot : len = 0 ∨ spot = none := by
          rcases Nat.eq_zero_or_pos len with h0 | h0
          · exact .inl h0
          · refine .inr ?_
            obtain ⟨row, h1, h2⟩ := hgi 0 h0
            have hlen := h2.len.1
            obtain ⟨v, hv⟩ : ∃ v, row[0]? = some v := ⟨row[0]'(by omega), by simp⟩
            have := hcellv 0 0 row v h1 hv
            simpa [Addr.add] using World.cell?_spot this
        refine ⟨[.rows ((List.range len).map g)], ⟨?_, ?_⟩, trivial⟩
        · rcases Nat.eq_zero_or_pos len with h0 | h0
          · refine .sl (fun _ _ => undef) hl hte (by simp) hrl hlc (.inl h0) (fun i j t' hi => by omega)
          · have hs := hspot.resolve_left (by omega)
            subst hs
            refine .sl (fun i j => (w.cell? ⟨b, off + (i * te.length + j), none⟩).getD undef) hl hte (by simp) hrl hlc (.inr ⟨b, off, rfl, trivial, ?_, fun i j hi hj => ?_⟩) (fun i j t' hi hj => ?_)
            · obtain ⟨row, h1, h2⟩ := hgi 0 h0
              have hlen := h2.len.1
              obtain ⟨v, hv⟩ : ∃ v, row[0]? = some v := ⟨row[0]'(by omega), by simp⟩
              have := cell_lt (hcellv 0 0 row v h1 hv)
              simpa [Addr.add] using this
            · obtain ⟨row, h1, h2⟩ := hgi i hi
              have hlen := h2.len.1
              obtain ⟨v, hv⟩ : ∃ v, row[j]? = some v := ⟨row[j]'(by omega), by simp⟩
              have h3 := hcellv i j row v h1 hv
              have h4 : ((⟨b, off, none⟩ : Addr).add (i * P.cellsOf e)).add j = ⟨b, off + (i * te.length + j), none⟩ := by
                rw [add_plain, add_plain, hpos.1, Nat.add_assoc]
              rw [h4] at h3
              rw [h3]; rfl
            · obtain ⟨row, h1, h2⟩ := hgi i hi
              obtain ⟨v, p, h3, h4, h5, h6⟩ := h2.get hj
              have h7 := hcellv i j row v h1 h3
              have h8 : ((⟨b, off, none⟩ : Addr).add (i * P.cellsOf e)).add j = ⟨b, off + (i * te.length + j), none⟩ := by
                rw [add_plain, add_plain, hpos.1, Nat.add_assoc]
              rw [h8] at h7
              rw [hpv i j p hi h4, h7]; exact h5
        · refine .sl hl hte ?_ hrl (fun i j t' hi hj => ?_)
          · have := hb.len (elems.map (·.1)) (rest.map (·.1))
            simp at this ⊢; omega
          · have hi : i < len := by simpa using hi
            obtain ⟨row, h1, h2⟩ := hgi i hi
            obtain ⟨v, p, h3, h4, h5, h6⟩ := h2.get hj
            rw [hpv i j p hi h4]; exact h6
    · -- struct
      rename_i fs hu
      simp only [Bool.and_eq_true] at hg
      obtain ⟨hsz, hgf, hga⟩ := hg
      have hsz : ts.length = P.cellsOf t := by
        unfold sized at hsz; rw [hc] at hsz; exact natBeq_iff.1 hsz
      simp only [cellTys, hu] at hc
      obtain ⟨xs, n', hn, rfl, hlen, hxl, hx⟩ := DataW.trod_struct hu h
      cases hn
      simp only at hB
      have key : ∀ (l : List Field) (i off : Nat) (ts : List TypeId), (∀ j f, l[j]? = some f → fs[i + j]? = some f) → fieldsGood P m off l = true → (∀ f ∈ l, tyGood P k m f.type = true) → catO (l.map fun f => cellTys P m f.type) = some ts →
          off + ts.length ≤ cs.length → ∃ ps, Rds P w B ts ((cs.drop off).take ts.length) ps := fun l => by
        induction l with
        | nil =>
          intro i off ts _ _ _ hc _
          simp only [List.map_nil, catO] at hc; cases hc
          exact ⟨[], by simp [Rds]⟩
        | cons fd l ihl =>
          intro i off ts hi hgf hga hc hle
          rw [List.map_cons] at hc
          obtain ⟨l1, ts', h1, h2, rfl⟩ := catO_cons hc
          simp only [fieldsGood, h1, Bool.and_eq_true] at hgf
          obtain ⟨⟨g1, g2⟩, g3⟩ := hgf
          have g1 := natBeq_iff.1 g1
          have g2 := natBeq_iff.1 g2
          rw [List.length_append] at hle
          have hf := hi 0 fd rfl
          rw [Nat.add_zero] at hf
          have hti := hx i fd hf
          have hix : i < xs.length := by
            have := (Array.getElem?_eq_some_iff.1 hf).1
            omega
          rw [List.getElem?_eq_getElem hix, g1, ← g2] at hti
          obtain ⟨ps1, q1⟩ := ih fd.type _ _ hti (Nat.le_trans (hb.part (xs.map (·.1)) _ (List.mem_map.2 ⟨_, List.getElem_mem hix, rfl⟩)) hB) k m l1 (hga fd List.mem_cons_self) h1
          obtain ⟨ps2, q2⟩ := ihl (i + 1) (off + l1.length) ts' (fun j f hj => by
            have := hi (j + 1) f (by simpa using hj)
            rw [show i + 1 + j = i + (j + 1) by omega]; exact this) (by rw [g2]; exact g3) (fun f hf => hga f (List.mem_cons_of_mem _ hf)) h2 (by omega)
          refine ⟨ps1 ++ ps2, ?_⟩
          rw [List.length_append, List.take_add, List.drop_drop]
          exact q1.app q2
      have hts : ts.length = cs.length := by rw [hlen, hsz]
      obtain ⟨ps, hps⟩ := key fs.toList 0 0 ts (fun j f hj => by rw [Nat.zero_add, ← Array.getElem?_toList]; exact hj) hgf (fun f hf => List.all_eq_true.1 hga f hf) hc (by omega)
      refine ⟨ps, ?_⟩
      rw [List.drop_zero, hts, List.take_length] at hps
      exact hps
    · -- array
      rename_i kk e hu
      simp only [Bool.and_eq_true] at hg
      obtain ⟨hsz, hg⟩ := hg
      have hsz : ts.length = P.cellsOf t := by
        unfold sized at hsz; rw [hc] at hsz; exact natBeq_iff.1 hsz
      simp only [cellTys, hu] at hc
      obtain ⟨le, hle, hts⟩ := Option.map_eq_some_iff.1 hc
      have g1 : le.length = P.cellsOf e := by
        have := hg.1
        unfold sized at this; rw [hle] at this; exact natBeq_iff.1 this
      obtain ⟨xs, n', hn, rfl, hlen, hxl, hx⟩ := DataW.trod_array hu h
      cases hn
      simp only at hB
      have key : ∀ (q i : Nat), i + q ≤ kk → ∃ ps, Rds P w B (repL q le) ((cs.drop (i * le.length)).take (q * le.length)) ps := fun q => by
        induction q with
        | zero => intro i _; exact ⟨[], by simp [Rds, repL]⟩
        | succ q ihq =>
          intro i hi
          have hti := hx i (by omega)
          have hix : i < xs.length := by omega
          rw [List.getElem?_eq_getElem hix, ← g1] at hti
          obtain ⟨ps1, q1⟩ := ih e _ _ hti (Nat.le_trans (hb.part (xs.map (·.1)) _ (List.mem_map.2 ⟨_, List.getElem_mem hix, rfl⟩)) hB) k m le hg.2 hle
          obtain ⟨ps2, q2⟩ := ihq (i + 1) (by omega)
          refine ⟨ps1 ++ ps2, ?_⟩
          rw [show (q + 1) * le.length = le.length + q * le.length by rw [Nat.add_mul]; omega, List.take_add, List.drop_drop]
          rw [show i * le.length + le.length = (i + 1) * le.length by rw [Nat.add_mul]; omega]
          exact q1.app q2
      obtain ⟨ps, hps⟩ := key kk 0 (by omega)
      have hrep : ∀ q, (repL q le).length = q * le.length := fun q => by
        induction q with
        | zero => simp [repL]
        | succ q ih => simp only [repL, List.length_append, ih]; rw [Nat.add_mul]; omega
      have hcl : cs.length = kk * le.length := by rw [hlen, ← hsz, ← hts, hrep]
      rw [Nat.zero_mul, List.drop_zero, ← hcl, List.take_length] at hps
      exact ⟨ps, by rw [← hts]; exact hps⟩
    · cases hg

end
end Go.Px
