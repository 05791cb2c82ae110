/-
Px: a statement out of a contract.
-/
import Derived.Test.YtopmcbahdgfleaaGreatPxBridge
namespace Go.Px
open Go.ChangeShapes Go.WideShapes Go.ChangeAt Go.RowKit
set_option linter.unusedVariables false
set_option linter.unusedSimpArgs false

section
variable {E : Env} {N : Nat} {P : Program} {W W' : World} {B : Nat} {H : Type} {enc : TypeId × Value → H} {n0 : Nz} {σ : Nat → Option (Nat × Nat)}

theorem PVoks.app : ∀ {ts ts' : List TypeId} {ps ps' : List PV}, PVoks P B ts ps → PVoks P B ts' ps' → PVoks P B (ts ++ ts') (ps ++ ps')
  | [], _, [], _, _, h => h
  | t :: ts, _, p :: ps, _, h, h' => ⟨h.1, PVoks.app h.2 h'⟩
  | [], _, _ :: _, _, h, _ => h.elim
  | _ :: _, _, [], _, h, _ => h.elim

theorem Rds.oks : ∀ {ts : List TypeId} {vs : List Value} {ps : List PV}, Rds P W B ts vs ps → PVoks P B ts ps
  | [], [], [], _ => trivial
  | t :: ts, v :: vs, p :: ps, h => ⟨h.1.2, Rds.oks h.2⟩
  | [], [], _ :: _, h => h.elim
  | [], _ :: _, _, h => h.elim
  | _ :: _, [], _, h => h.elim
  | _ :: _, _ :: _, [], h => h.elim

theorem Rds.cells (hst : ∀ b, StB n0 noB σ (hpSt ([] : List (Nat × HEnt (std E N)))) false b) : ∀ {ts : List TypeId} {vs : List Value} {ps : List PV}, Rds P W B ts vs ps → ∀ (q : Nat) (rest : List SLeaf),
    ∃ cs : List (AC0 E N), argCells (O := std E N) P false q ts (ps.map PV.leaf ++ rest) = some (cs, [], rest) ∧ RelCs P n0 noB σ (hpSt []) W cs vs
  | [], [], [], _, q, rest => ⟨[], rfl, trivial⟩
  | t :: ts, v :: vs, p :: ps, h, q, rest => by
    obtain ⟨cs, h1, h2⟩ := Rds.cells hst h.2 q rest
    have hr := h.1.1
    cases hr with
    | int hl => exact ⟨.int _ _ :: cs, by simp [argCells, hl, PV.leaf, h1], rfl, h2⟩
    | bool hl => exact ⟨.bool _ :: cs, by simp [argCells, hl, PV.leaf, h1], rfl, h2⟩
    | str hl => exact ⟨.str _ :: cs, by simp [argCells, hl, PV.leaf, h1], rfl, h2⟩
    | sl v hl hts hle hrl hc hm hv =>
      refine ⟨.imm _ false _ :: cs, by simp [argCells, hl, PV.leaf, h1]; rfl, ⟨t, hl, ?_⟩, h2⟩
      exact (Rep.sl v hl hts hle hrl hc hm hv).st (fun b _ => hst b)
  | [], [], _ :: _, h, _, _ => h.elim
  | [], _ :: _, _, h, _, _ => h.elim
  | _ :: _, [], _, h, _, _ => h.elim
  | _ :: _, _ :: _, [], h, _, _ => h.elim

theorem agg_form {t : TypeId} {v : Value} {k m base : Nat} (hg : tyGood P k m t = true) (hv : Value.okWide P W .any base t v) : match isAggT P t with | true => ∃ cs, v = .agg cs | false => v.oneCell' = true := by
  cases k with
  | zero => simp [tyGood] at hg
  | succ k =>
    unfold tyGood at hg
    unfold isAggT
    split at hg
    · rename_i hu; rw [hu]; obtain ⟨b, rfl⟩ := okWide_bool hu hv; rfl
    · rename_i hu; rw [hu]; obtain ⟨b, rfl⟩ := okWide_int hu hv; rfl
    · rename_i hu; rw [hu]; obtain ⟨b, rfl⟩ := okWide_string hu hv; rfl
    · rename_i hu; rw [hu]; obtain ⟨a, l, c, rfl⟩ := okWide_slice hu hv; rfl
    · rename_i hu; rw [hu]; obtain ⟨cs, h, _⟩ := okWide_struct hu hv; exact ⟨cs, h⟩
    · rename_i hu
      rw [hu]
      unfold Value.okWide at hv
      rw [hu] at hv
      obtain ⟨cs, h, _⟩ := hv; exact ⟨cs, h⟩
    · cases hg

theorem notFn {t : TypeId} {k m : Nat} (hg : tyGood P k m t = true) : lkOf P t ≠ .fn := by
  intro h
  cases k with
  | zero => simp [tyGood] at hg
  | succ k =>
    unfold tyGood at hg
    unfold lkOf at h
    split at hg <;> (try (rename_i hu; rw [hu] at h; cases h; done))
    cases hg

theorem args_of_trod {f : DataW H → Nat} (hb : Bulk f) (hst : ∀ b, StB n0 noB σ (hpSt ([] : List (Nat × HEnt (std E N)))) false b) {base : Nat} : ∀ {ts : List TypeId} {vals : List Value} {ds : List (DataW H)} {p : List MemPlace}, DataW.TrodAll enc P W 0 (fun _ => true) true ts vals ds p →
    (∀ (j : Nat) (t : TypeId) (v : Value), ts[j]? = some t → vals[j]? = some v → Value.okWide P W .any base t v) → (∀ t ∈ ts, tyGood P 40 tyDepth t = true ∧ (tysOf P t).isSome = true) → (∀ d ∈ ds, f d ≤ B) →
    ∃ (l : List TypeId) (ls : List PV) (vs : List (AV (std E N))), tysAll P ts = some l ∧ PVoks P B l ls ∧ argVals (O := std E N) P [] 1 ts [] (ls.map PV.leaf) = some (vs, []) ∧ RelArgs P n0 noB σ (hpSt []) W vs vals
  | [], vals, ds, p, h, _, _, _ => by
    obtain ⟨rfl, rfl, rfl⟩ := trodAll_nil h
    exact ⟨[], [], [], rfl, trivial, rfl, trivial⟩
  | t :: ts, vals, ds, p, h, hv, hg, hd => by
    obtain ⟨v, vals', d, ds', p1, q1, rfl, rfl, rfl, h1, h2⟩ := trodAll_cons h
    obtain ⟨l, ls, vs, a1, a2, a3, a4⟩ := args_of_trod (base := base) hb hst h2 (fun j t v hj hj2 => hv (j + 1) t v (by simpa using hj) (by simpa using hj2)) (fun t ht => hg t (List.mem_cons_of_mem _ ht)) (fun d hd' => hd d (List.mem_cons_of_mem _ hd'))
    obtain ⟨g1, g2⟩ := hg t List.mem_cons_self
    obtain ⟨lt, hlt⟩ := Option.isSome_iff_exists.1 g2
    have hct : cellTys P tyDepth t = some lt := by
      unfold tysOf at hlt
      split at hlt
      · rename_i l' hl'
        split at hlt
        · cases hlt; exact hl'
        · cases hlt
      · cases hlt
    obtain ⟨n, hn⟩ := h1
    obtain ⟨ps, hps⟩ := rds_of_trod hb n t _ _ hn (hd d List.mem_cons_self) 40 tyDepth lt g1 hct
    obtain ⟨cs, c1, c2⟩ := Rds.cells hst hps 1 (ls.map PV.leaf)
    refine ⟨lt ++ l, ps ++ ls, .val { agg := isAggT P t, cs } :: vs, by simp [tysAll, hlt, a1], hps.oks.app a2, ?_, ⟨c2, agg_form g1 (hv 0 t v rfl rfl)⟩, a4⟩
    rw [List.map_append]
    unfold argVals
    have hnf := notFn g1
    cases hl : lkOf P t with
    | fn => exact (hnf hl).elim
    | _ =>
      simp only [hlt]
      rw [show ([] : List Bool).headD false = false from rfl, c1]
      simp only [List.tail_nil, List.length_nil, Nat.add_zero, a3, Option.map_some, List.append_nil]

theorem kept_of_same (hos : W'.os = W.os) (hout : W'.output = W.output) (h : ∀ b, b < W.heap.size → W'.heap[b]? = W.heap[b]?) (may : MemPlace → Prop) : W.keptBut W' may := by
  refine ⟨hos, hout, fun i hi => ?_⟩
  rw [h i hi]
  cases W.heap[i]? with
  | none => rfl
  | some o =>
    cases o with
    | cells c t fr => exact ⟨rfl, rfl, rfl, fun _ _ => rfl⟩
    | map es clock => exact .inr ⟨rfl, rfl⟩
    | _ => rfl

theorem trodAll_stays (hlaid : laidOutB P = true) (h : ∀ b, b < W.heap.size → W'.heap[b]? = W.heap[b]?) {sp : Nat → Bool} : ∀ {ts : List TypeId} {vals : List Value} {ds : List (DataW H)} {p : List MemPlace}, DataW.TrodAll enc P W 0 (fun _ => true) true ts vals ds p →
    (∀ t ∈ ts, P.readableRec t = true ∧ t < P.types.size) → (∀ x ∈ p, x.block < W.heap.size) → (∀ x ∈ p, sp x.block = true) → DataW.TrodAll enc P W' 0 sp true ts vals ds p
  | [], vals, ds, p, ht, _, _, _ => by
    obtain ⟨rfl, rfl, rfl⟩ := trodAll_nil ht
    exact rfl
  | t :: ts, vals, ds, p, ht, hr, hlt, hsp => by
    obtain ⟨v, vals', d, ds', p1, q1, rfl, rfl, rfl, h1, h2⟩ := trodAll_cons ht
    refine ⟨p1, q1, WideElems.Trod_stays hlaid (hr t List.mem_cons_self).1 (hr t List.mem_cons_self).2 h1 (fun x hx => ?_) (fun x hx => hsp x (List.mem_append_left _ hx)),
      trodAll_stays hlaid h h2 (fun t ht => hr t (List.mem_cons_of_mem _ ht)) (fun x hx => hlt x (List.mem_append_right _ hx)) (fun x hx => hsp x (List.mem_append_right _ hx)), rfl⟩
    have hb := h x.block (hlt x (List.mem_append_left _ hx))
    cases x with
    | cell b off => exact World.cell?_of_block (a := ⟨b, off, none⟩) hb
    | map b => exact hb

theorem trodAll_len {w : World} {base : Nat} {spare : Nat → Bool} {held : Bool} : ∀ {ts : List TypeId} {vals : List Value} {ds : List (DataW H)} {p : List MemPlace}, DataW.TrodAll enc P w base spare held ts vals ds p → ds.length = ts.length
  | [], vals, ds, p, ht => by
    obtain ⟨rfl, rfl, rfl⟩ := trodAll_nil ht
    rfl
  | t :: ts, vals, ds, p, ht => by
    obtain ⟨v, vals', d, ds', p1, q1, rfl, rfl, rfl, h1, h2⟩ := trodAll_cons ht
    simp [trodAll_len h2]

/-- A law's statement for its program, out of the contract of its function. -/
theorem law_post {ci : CI} (hfns : ci.fns = []) (hgives : ci.gives = []) (hv : Valid P E N ci) {fn : Func} (hfn : P.funcs[ci.f]? = some fn) {tb : TypeId} (hres : fn.resultTypes = #[tb]) (htb : P.underlying tb = some .bool) (hlaid : laidOutB P = true)
    (hgood : ∀ t ∈ fn.params.toList, (tyGood P 40 tyDepth t = true ∧ (tysOf P t).isSome = true) ∧ (P.readableRec t = true ∧ t < P.types.size)) {s : ChangeSpec} (hvars : s.vars = []) (hspec : ∀ ds : List (DataW H), ds.length = fn.params.size → s.fn H ds = { results := [.lit (.bool true)], args := ds })
    {f : DataW H → Nat} (hb : Bulk f) (hE : ∀ l ls, tysAll P fn.params.toList = some l → PVoks P B l ls → E ci.f [] ls = some [.bool true]) {args : Array Value} {ds gs : List (DataW H)} {before : List MemPlace} {base : Nat}
    (hval : ∀ (j : Nat) t v, fn.params[j]? = some t → args[j]? = some v → Value.okWide P W .any base t v) (hW : DataW.Whole enc P fn.params.toList s.vars false W args.toList ds gs before) (hbulk : ∀ d ∈ ds, f d ≤ B) :
    Calls P ci.f args W fun e W' => ∃ v, e = .returned v ∧ s.post enc P fn false true false false W args v W' := by
  have hW0 := hW
  have hlt := hW.lt
  obtain ⟨p, q, hA, hV, rfl, hfz, hnd⟩ := hW
  rw [hvars] at hV
  obtain ⟨rfl, rfl⟩ := trodVars_none hV
  have hst : ∀ b, StB ⟨W.heap.size, fun _ => True⟩ noB (fun _ => none) (hpSt ([] : List (Nat × HEnt (std E N)))) false b := fun b => ⟨fun hm => (by
    rcases hm with ⟨_, _, h, _⟩ | ⟨_, _, _, h, _⟩
    · cases h
    · cases h), fun e => (by cases e), .inr trivial⟩
  have hval0 : ∀ (j : Nat) t v, fn.params.toList[j]? = some t → args.toList[j]? = some v → Value.okWide P W .any base t v := fun j t v h1 h2 => by
    exact hval j t v (by rw [← Array.getElem?_toList]; exact h1) (by rw [← Array.getElem?_toList]; exact h2)
  obtain ⟨l, ls, vs, a1, a2, a3, a4⟩ := args_of_trod (E := E) (N := N) (n0 := ⟨W.heap.size, fun _ => True⟩) (σ := fun _ => none) (base := base) hb hst hA hval0 (fun t ht => (hgood t ht).1) hbulk
  have he := hE l ls a1 a2
  have hm0 : Mem P ⟨W.heap.size, fun _ => True⟩ noB (fun _ => none) (hpSt ([] : List (Nat × HEnt (std E N)))) W := ⟨fun _ _ h => (by cases h), fun _ _ h => (by cases h), fun _ _ _ _ _ h => (by cases h), fun _ _ _ _ _ _ _ h => (by cases h), fun _ _ _ _ _ _ h => (by cases h)⟩
  have hc := hv fn hfn ls _ (by rw [hfns]; exact he) vs [] (by rw [hgives, hfns]; exact a3) ⟨W.heap.size, fun _ => True⟩ (fun _ => none) W args.toList rfl hm0 a4
  refine Calls.mono hc (fun e W' hr => ?_)
  cases e with
  | panicked ch => exact hr.elim
  | outgrown => exact hr.elim
  | returned v =>
    obtain ⟨h1, h2, h3, h4, h5, h6⟩ := hr
    have hheap : ∀ b, b < W.heap.size → W'.heap[b]? = W.heap[b]? := fun b hb => h5 b hb (hst b).1
    obtain ⟨σ', vs', hs', b1, b2, b3, b4⟩ := h6 0
    have hvt : v = .bool true := by
      rw [hres] at b1
      have hl : lkOf P tb = .bool := by simp [lkOf, htb]
      have hty : ∀ x, tysOf P tb = some x → x = [tb] := fun x hx => by
        unfold tysOf at hx
        simp only [tyDepth, cellTys, htb] at hx
        split at hx
        · cases hx; rfl
        · cases hx
      have hag : isAggT P tb = false := by simp [isAggT, htb]
      cases hx : tysOf P tb with
      | none => simp [boundVals, hx] at b1
      | some x =>
        have := hty x hx
        subst this
        simp [boundVals, hx, boundCells, hl, hag] at b1
        obtain ⟨rfl, rfl⟩ := b1
        obtain ⟨g1, g2⟩ : RelVal P _ noB σ' (hpSt []) W' (⟨false, [.bool true]⟩ : Val (std E N)) v := b3
        have g2 : v.oneCell' = true := g2
        rw [cells_one g2] at g1
        exact g1.1
    subst hvt
    have hlen : ds.length = fn.params.size := by
      have := trodAll_len hA
      simpa using this
    have hsp := hspec ds hlen
    have hstay := trodAll_stays (enc := enc) (sp := fun b => decide (b < W.heap.size)) hlaid hheap hA (fun t ht => (hgood t ht).2) (fun x hx => hlt x (List.mem_append_left _ hx)) (fun x hx => by simpa using hlt x (List.mem_append_left _ hx))
    refine ⟨_, rfl, ds, [], p ++ [], [], p, [], hW0, ?_, ?_, ?_, kept_of_same h1 h3 hheap _, fun h => (by cases h)⟩
    · rw [List.append_nil, hsp, hres]
      exact trodAll_cons_mk (shut_bool htb true) trodAll_mk0
    · rw [List.append_nil, hsp]; exact hstay
    · rw [List.append_nil, hsp, hvars]; exact rfl

end
end Go.Px
