/-
Px: regions that draw their order.
-/
import Derived.Test.YtopmcbahdgfleaaGreatPxDraw
namespace Go.Px
set_option linter.unusedVariables false
set_option linter.unusedSimpArgs false

section
variable {E : Env} {N : Nat} {P : Program} {cfg : Cfg} {n0 n0' : Nz} {nt : Nat} {β β' : Nat → Option Nat} {σ σ' : Nat → Option (Nat × Nat)} {s s' s2 : St0 E N} {a : Act} {w w' : World}

/-! ### What the checks of a region say -/

theorem befores_get : ∀ (ops : List Oper) (acc : List Nat) (k : Nat) (o : Oper), ops[k]? = some o → ∀ j, ((befores ops acc).getD (acc.length + k) 0).testBit j = true →
    ∃ e ∈ o.after.toList, Region.binds .any e = true ∧ (j = e.on ∨ (e.on < acc.length + k ∧ ((befores ops acc).getD e.on 0).testBit j = true))
  | [], acc, k, o, h => by simp at h
  | x :: ops, acc, k, o, h => by
    have pre : ∀ (ops : List Oper) (acc : List Nat) (i : Nat), i < acc.length → (befores ops acc).getD i 0 = acc.getD i 0 := fun ops => by
      induction ops with
      | nil => intro acc i _; rfl
      | cons y ops ih =>
        intro acc i hi
        simp only [befores]
        rw [ih _ _ (by simp; omega)]
        simp only [List.getD_eq_getElem?_getD]
        rw [List.getElem?_append_left hi]
    cases k with
    | succ k =>
      intro j hj
      obtain ⟨m, hm⟩ : ∃ m, befores (x :: ops) acc = befores ops (acc ++ [m]) := ⟨_, rfl⟩
      rw [hm] at hj ⊢
      have hl : (acc ++ [m]).length + k = acc.length + (k + 1) := by simp; omega
      have := befores_get ops (acc ++ [m]) k o (by simpa using h) j (by rw [hl]; exact hj)
      rw [hl] at this
      exact this
    | zero =>
      simp at h; subst h
      intro j hj
      simp only [befores] at hj ⊢
      rw [pre _ _ _ (by simp)] at hj
      simp only [List.getD_eq_getElem?_getD, Nat.add_zero] at hj
      rw [List.getElem?_append_right (Nat.le_refl _)] at hj
      simp only [Nat.sub_self, List.getElem?_cons_zero, Option.getD_some] at hj
      have key : ∀ (es : List Edge) (m : Nat), (es.foldl (fun s (e : Edge) => match e.ground with
    | .textOnly _ | .gcOnly _ => s
    | _ => s ||| bitOf e.on ||| acc.getD e.on 0) m).testBit j = true → m.testBit j = true ∨ ∃ e ∈ es, Region.binds .any e = true ∧ (j = e.on ∨ (acc.getD e.on 0).testBit j = true) := fun es => by
        induction es with
        | nil => intro m h; exact .inl h
        | cons e es ih =>
          intro m h
          simp only [List.foldl_cons] at h
          rcases ih _ h with h1 | ⟨e', h1, h2⟩
          · have hb : (m.testBit j = true) ∨ (Region.binds .any e = true ∧ (j = e.on ∨ (acc.getD e.on 0).testBit j = true)) := by
              unfold Region.binds
              split at h1
              · exact .inl h1
              · exact .inl h1
              · rename_i hg1 hg2
                rw [Nat.testBit_or, Nat.testBit_or, Bool.or_eq_true, Bool.or_eq_true, testBit_bitOf] at h1
                have hbnd : (match e.ground with
                    | .textOnly _ => Region.Mode.any == .text
                    | .gcOnly _ => Region.Mode.any == .gc
                    | _ => true) = true := by
                  split
                  · rename_i hx; exact (hg1 _ hx).elim
                  · rename_i hx; exact (hg2 _ hx).elim
                  · rfl
                rcases h1 with (h1 | h1) | h1
                · exact .inl h1
                · exact .inr ⟨hbnd, .inl h1.symm⟩
                · exact .inr ⟨hbnd, .inr h1⟩
            rcases hb with h | h
            · exact .inl h
            · exact .inr ⟨e, List.mem_cons_self, h⟩
          · exact .inr ⟨e', List.mem_cons_of_mem _ h1, h2⟩
      rcases key _ 0 hj with h | ⟨e, h1, h2, h3⟩
      · simp at h
      · refine ⟨e, h1, h2, h3.imp (fun h => h) (fun h => ?_)⟩
        by_cases he : e.on < acc.length
        · exact ⟨by omega, by rw [pre _ _ _ (by simp; omega)]; simp only [List.getD_eq_getElem?_getD] at h ⊢; rw [List.getElem?_append_left he]; exact h⟩
        · simp only [List.getD_eq_getElem?_getD] at h
          rw [List.getElem?_eq_none (by omega)] at h
          simp at h

theorem backOk_get : ∀ {ops : List Oper} {i : Nat}, backOk i ops = true → ∀ (k : Nat) (o : Oper), ops[k]? = some o → ∀ e ∈ o.after.toList, Region.binds .any e = true → e.on < i + k
  | [], i, _, k, o, h, _, _, _ => by simp at h
  | x :: ops, i, hb, k, o, h, e, he, hbd => by
    simp only [backOk, Bool.and_eq_true] at hb
    cases k with
    | succ k =>
      have := backOk_get hb.2 k o (by simpa using h) e he hbd
      omega
    | zero =>
      simp at h; subst h
      have := List.all_eq_true.1 hb.1 e he
      unfold Region.binds at hbd
      split at hbd
      · simp at hbd
      · simp at hbd
      · rename_i h1 h2
        split at this
        · rename_i hx; exact (h1 _ hx).elim
        · rename_i hx; exact (h2 _ hx).elim
        · exact natBlt_iff.1 this

theorem apart_inner {j bj rj wj : Nat} : ∀ {i : Nat} {l : List (Nat × Nat)}, apartOk.inner j bj rj wj i l = true → ∀ (k r w : Nat), l[k]? = some (r, w) → i + k < j → bj.testBit (i + k) = true ∨ (w &&& (rj ||| wj) = 0 ∧ wj &&& r = 0)
  | i, [], _, k, r, w, h, _ => by simp at h
  | i, (r', w') :: l, hi, k, r, w, h, hlt => by
    simp only [apartOk.inner] at hi
    split at hi
    · rename_i hle; have := Nat.le_of_ble_eq_true hle; omega
    · split at hi
      · rename_i hor
        cases k with
        | zero =>
          simp at h
          obtain ⟨rfl, rfl⟩ := h
          simp only [Bool.or_eq_true, Bool.and_eq_true, natBeq_iff] at hor
          simpa using hor
        | succ k =>
          have := apart_inner hi k r w (by simpa using h) (by omega)
          rw [show i + (k + 1) = i + 1 + k by omega]; exact this
      · cases hi

theorem apart_outer {ms : List (Nat × Nat)} : ∀ {j : Nat} {bs : List Nat} {l : List (Nat × Nat)}, apartOk.outer ms j bs l = true → ∀ (k b r w : Nat), bs[k]? = some b → l[k]? = some (r, w) → apartOk.inner (j + k) b r w 0 ms = true
  | j, [], l, _, k, b, r, w, h, _ => by simp at h
  | j, b' :: bs, [], _, k, b, r, w, _, h => by simp at h
  | j, b' :: bs, (r', w') :: l, ho, k, b, r, w, h1, h2 => by
    simp only [apartOk.outer] at ho
    split at ho
    · rename_i hi
      cases k with
      | zero =>
        simp at h1 h2
        obtain ⟨rfl, rfl⟩ := h2
        subst h1; exact hi
      | succ k =>
        have := apart_outer ho k b r w (by simpa using h1) (by simpa using h2)
        rw [show j + (k + 1) = j + 1 + k by omega]; exact this
    · cases ho

theorem and_zero {x y p : Nat} (h : x &&& y = 0) (hx : x.testBit p = true) (hy : y.testBit p = true) : False := by
  have := congrArg (fun n => n.testBit p) h
  simp [Nat.testBit_and, hx, hy] at this

/-! ### The invariant -/

/-- The temporaries of the operations that are done. -/
def doneL (D : Nat → Bool) : Nat → List Oper → List Nat
  | _, [] => []
  | i, o :: r => (match D i with | true => o.dst.toList | false => []) ++ doneL D (i + 1) r

theorem mem_doneL {D : Nat → Bool} {d : Nat} : ∀ {l : List Oper} {i : Nat}, d ∈ doneL D i l ↔ ∃ k o, l[k]? = some o ∧ D (i + k) = true ∧ o.dst = some d
  | [], i => by simp [doneL]
  | x :: l, i => by
    simp only [doneL, List.mem_append, mem_doneL (l := l)]
    constructor
    · rintro (h | ⟨k, o, h1, h2, h3⟩)
      · cases hD : D i with
        | true => rw [hD] at h; exact ⟨0, x, rfl, hD, by simpa using h⟩
        | false => rw [hD] at h; simp at h
      · exact ⟨k + 1, o, by simpa using h1, by rw [show i + (k + 1) = i + 1 + k by omega]; exact h2, h3⟩
    · rintro ⟨k, o, h1, h2, h3⟩
      cases k with
      | zero =>
        simp at h1; subst h1
        rw [Nat.add_zero] at h2
        rw [h2]; exact .inl (by simpa using h3)
      | succ k => exact .inr ⟨k, o, by simpa using h1, by rw [show i + 1 + k = i + (k + 1) by omega]; exact h2, h3⟩

theorem dstList_get : ∀ {l : List Oper}, (dstList l).Nodup → ∀ {i j : Nat} {o o' : Oper} {d : Nat}, l[i]? = some o → l[j]? = some o' → o.dst = some d → o'.dst = some d → i = j
  | [], _, i, j, o, o', d, h, _, _, _ => by simp at h
  | x :: l, hn, i, j, o, o', d, hi, hj, ho, ho' => by
    have hn2 : (dstList l).Nodup := by
      simp only [dstList] at hn
      cases hx : x.dst with
      | none => rw [hx] at hn; exact hn
      | some y => rw [hx] at hn; exact (List.nodup_cons.1 hn).2
    have hx : ∀ {y}, x.dst = some y → y ∉ dstList l := fun {y} hx => by
      simp only [dstList] at hn
      rw [hx] at hn; exact (List.nodup_cons.1 hn).1
    cases i with
    | zero =>
      cases j with
      | zero => rfl
      | succ j =>
        simp at hi; subst hi
        exact (hx ho (mem_dstList (l := l) (k := j) (by simpa using hj) ho')).elim
    | succ i =>
      cases j with
      | zero =>
        simp at hj; subst hj
        exact (hx ho' (mem_dstList (l := l) (k := i) (by simpa using hi) ho)).elim
      | succ j => exact congrArg (· + 1) (dstList_get hn2 (by simpa using hi) (by simpa using hj) ho ho')

structure Inv (P : Program) (n0 : Nz) (nt L : Nat) (ops : List Oper) (tr : List (Rc E N)) (β : Nat → Option Nat) (σ : Nat → Option (Nat × Nat)) (s : St0 E N) (a : Act) (w : World) (D : Nat → Bool) (a' : Act) (w' : World) : Prop where
  post : ∃ β' σ', Post P n0 nt L (fun n => n ∈ dstList ops) β σ s a w β' σ' (stD D 0 tr s) a' w'
  gi : GI (stD D 0 tr s) (doneL D 0 ops)
  fresh : ∀ n, L ≤ n → (∀ (i : Nat) (o : Oper) (t : Rc E N), D i = true → ops[i]? = some o → tr[i]? = some t → ¬ (t.id ≤ n ∧ n < t.id + cntOf P o)) → Fresh a' (stD D 0 tr s) n

theorem filter_le {p q : Nat → Bool} (h : ∀ x, q x = true → p x = true) : ∀ l : List Nat, (l.filter q).length ≤ (l.filter p).length
  | [] => Nat.le_refl _
  | x :: l => by
    have ih := filter_le h l
    simp only [List.filter_cons]
    cases hq : q x with
    | true => rw [h x hq]; simp; exact ih
    | false =>
      cases p x with
      | true => simp; omega
      | false => simpa using ih
theorem filter_lt {p q : Nat → Bool} {i : Nat} (hp : p i = true) (hq : q i = false) (h : ∀ x, q x = true → p x = true) : ∀ l : List Nat, i ∈ l → (l.filter q).length < (l.filter p).length
  | [], hi => by simp at hi
  | x :: l, hi => by
    simp only [List.filter_cons]
    rcases List.mem_cons.1 hi with rfl | hi
    · rw [hp, hq]
      have := filter_le h l
      simp; omega
    · have ih := filter_lt hp hq h l hi
      cases hqx : q x with
      | true => rw [h x hqx]; simp; exact ih
      | false =>
        cases p x with
        | true => simp; omega
        | false => simpa using ih

/-- Any order of a region whose operations leave each other alone. -/
theorem any_order (hΓ : ∀ ci ∈ cfg.gam, Valid P E N ci ∧ Valid P E N { ci with own := false }) {ops : Array Oper} (hnd : (dstList ops.toList).Nodup) (hgd : guardsOk ops.toList 0 (befores ops.toList []) ops.toList = true)
    (hback : backOk 0 ops.toList = true) (hdn : ∀ d ∈ dstList ops.toList, d < nt) {Q : Exit → Act → World → Prop} {L : Nat} {tr : List (Rc E N)} (htr : TrOK P cfg ops.toList ops.toList L s tr)
    (hap : apartOk (befores ops.toList []) (tr.map fun t => (t.rd, t.wr.mask)) = true)
    (hQ : ∀ D a' w', (∀ i, i < ops.size → D i = true) → Inv P n0 nt L ops.toList tr β σ s a w D a' w' → Q .normal a' w') :
    ∀ (fuel : Nat) (listed : Array Bool) (a' : Act) (w' : World), listed.size = ops.size → ((List.range ops.size).filter fun i => !listed.getD i false).length ≤ fuel →
      (∀ i j, listed.getD i false = true → ((befores ops.toList []).getD i 0).testBit j = true → listed.getD j false = true) →
      Inv P n0 nt L ops.toList tr β σ s a w (fun i => listed.getD i false) a' w' → wpAny P .any ops Q fuel listed a' w' := by
  have hlen := htr.len
  have hbs : (befores ops.toList []).length = ops.toList.length := by
    have : ∀ (l : List Oper) (acc : List Nat), (befores l acc).length = acc.length + l.length := fun l => by
      induction l with
      | nil => intro acc; simp [befores]
      | cons x l ih => intro acc; simp only [befores]; rw [ih]; simp; omega
    rw [this]; simp
  -- two operations that no edge orders
  have apart : ∀ (i j : Nat) (t u : Rc E N), i < j → tr[i]? = some t → tr[j]? = some u → ((befores ops.toList []).getD j 0).testBit i = true ∨ (t.wr.mask &&& (u.rd ||| u.wr.mask) = 0 ∧ u.wr.mask &&& t.rd = 0) := fun i j t u hij ht hu => by
    have hj : j < ops.toList.length := by rw [← hlen]; exact (List.getElem?_eq_some_iff.1 hu).1
    have h1 := apart_outer (j := 0) hap j ((befores ops.toList []).getD j 0) u.rd u.wr.mask (by
      rw [List.getD_eq_getElem?_getD]
      rw [List.getElem?_eq_getElem (by rw [hbs]; exact hj)]; rfl) (by rw [List.getElem?_map, hu]; rfl)
    rw [Nat.zero_add] at h1
    have := apart_inner h1 i t.rd t.wr.mask (by rw [List.getElem?_map, ht]; rfl) (by omega)
    rwa [Nat.zero_add] at this
  have allDone : ∀ (listed : Array Bool), Region.ready .any ops listed = [] → listed.size = ops.size → ∀ i, i < ops.size → listed.getD i false = true := fun listed hr hsz i => by
    induction i using Nat.strongRecOn with
    | _ i ih =>
      intro hi
      cases hl : listed.getD i false with
      | true => rfl
      | false =>
        have : i ∈ Region.ready .any ops listed := by
          rw [mem_ready]
          refine ⟨?_, ops[i], by simp [hi], fun e he hb => ?_⟩
          · rw [Array.getD_eq_getD_getElem?] at hl ⊢
            rw [Array.getElem?_eq_getElem (by rw [hsz]; exact hi)] at hl ⊢
            simpa using hl
          · have := backOk_get hback i ops[i] (by simp [hi]) e (by simpa using he) hb
            exact ih e.on (by omega) (by omega)
        rw [hr] at this; simp at this
  intro fuel
  induction fuel with
  | zero =>
    intro listed a' w' hsz hf hcl inv
    have hall : ∀ i, i < ops.size → listed.getD i false = true := fun i hi => by
      have h0 : ((List.range ops.size).filter fun i => !listed.getD i false) = [] := List.length_eq_zero_iff.1 (by omega)
      have := List.filter_eq_nil_iff.1 h0 i (List.mem_range.2 hi)
      simpa using this
    refine ⟨?_, hQ _ a' w' hall inv⟩
    cases hr : Region.ready .any ops listed with
    | nil => rfl
    | cons x l =>
      have hx : x ∈ Region.ready .any ops listed := by rw [hr]; exact List.mem_cons_self
      rw [mem_ready] at hx
      obtain ⟨h1, o, h2, _⟩ := hx
      have hi := (Array.getElem?_eq_some_iff.1 h2).1
      have := hall x hi
      rw [Array.getD_eq_getD_getElem?] at h1 this
      rw [Array.getElem?_eq_getElem (by rw [hsz]; exact hi)] at h1 this
      simp at h1 this
      rw [this] at h1; cases h1
  | succ fuel ih =>
    intro listed a' w' hsz hf hcl inv
    refine ⟨fun hr => hQ _ a' w' (allDone listed hr hsz) inv, fun i hi => ?_⟩
    rw [mem_ready] at hi
    obtain ⟨h1, o, ho, haft⟩ := hi
    have hisz := (Array.getElem?_eq_some_iff.1 ho).1
    have hoL : ops.toList[i]? = some o := by rw [Array.getElem?_toList]; exact ho
    have hDi : listed.getD i false = false := by
      rw [Array.getD_eq_getD_getElem?] at h1 ⊢
      rw [Array.getElem?_eq_getElem (by rw [hsz]; exact hisz)] at h1 ⊢
      simpa using h1
    have htl : i < tr.length := by rw [hlen]; simpa using hisz
    obtain ⟨t, ht⟩ : ∃ t, tr[i]? = some t := ⟨tr[i], by simp [htl]⟩
    -- what comes before it is done
    have hbef : ∀ j, ((befores ops.toList []).getD i 0).testBit j = true → listed.getD j false = true := fun j hj => by
      obtain ⟨e, he, hb, h3⟩ := befores_get ops.toList [] i o hoL j (by simpa using hj)
      have hd := haft e (by simpa using he) hb
      rcases h3 with rfl | ⟨_, h3⟩
      · exact hd
      · exact hcl e.on j hd h3
    -- its reads are as in the text
    have hgood := htr.good (i := 0) i o t hoL ht
    rw [Nat.zero_add] at hgood
    have hgood2 : OpGood P cfg ops.toList o (stD (fun i => listed.getD i false) 0 tr s) t := hgood.agree (fun p hp => look_stD rfl (fun k u hk hu => by
      rw [Nat.zero_add]
      rcases Nat.lt_trichotomy k i with hlt | rfl | hgt
      · rcases apart k i u t hlt hk ht with h | ⟨h, _⟩
        · rw [hbef k h]; simpa using hlt
        · exact (and_zero h hu (by rw [Nat.testBit_or, hp]; rfl)).elim
      · rw [hDi]; simp
      · rcases apart i k t u hgt ht hk with h | ⟨_, h⟩
        · cases hD : listed.getD k false with
          | false => simp; omega
          | true => have := hcl k i hD h; rw [hDi] at this; cases this
        · exact (and_zero h hu hp).elim))
    -- one more is done
    have hset : ∀ j, (listed.setIfInBounds i true).getD j false = (listed.getD j false || decide (j = i)) := fun j => by
      by_cases hji : j = i
      · subst hji
        rw [Array.getD_eq_getD_getElem?, Array.getElem?_setIfInBounds]
        simp [hsz, hisz]
      · rw [getD_set_ne _ (fun e => hji e.symm)]; simp [hji]
    have hsame : Same ((stD (fun i => listed.getD i false) 0 tr s).apply t.wr) (stD (fun j => (listed.setIfInBounds i true).getD j false) 0 tr s) := fun p => by
      by_cases hp : t.wr.mask.testBit p = true
      · rw [look_stD_last (stD (fun i => listed.getD i false) 0 tr s) (D := fun j => (listed.setIfInBounds i true).getD j false) (i := 0) (s := s) ht (by rw [Nat.zero_add, hset]; simp) hp (fun j u hj hu hup => by
          rw [Nat.zero_add, hset]
          rcases apart i j t u hj ht hu with h | ⟨h, _⟩
          · cases hD : listed.getD j false with
            | false => simp; omega
            | true => have := hcl j i hD h; rw [hDi] at this; cases this
          · exact (and_zero h hp (by rw [Nat.testBit_or, hup, Bool.or_true])).elim)]
      · rw [look_apply_not hp]
        refine look_stD rfl (fun k u hk hu => ?_)
        rw [Nat.zero_add, hset]
        have : k ≠ i := fun e => by subst e; rw [ht] at hk; cases hk; exact hp hu
        simp [this]
    obtain ⟨β1, σ1, hpost⟩ := inv.post
    have hdst : ∀ d, o.dst = some d → d ∉ doneL (fun i => listed.getD i false) 0 ops.toList ∧ d < nt := fun d hd => by
      refine ⟨fun hm => ?_, hdn d (mem_dstList hoL hd)⟩
      obtain ⟨k, o', h2, h3, h4⟩ := mem_doneL.1 hm
      have := dstList_get hnd hoL h2 hd h4
      subst this
      rw [Nat.zero_add, hDi] at h3; cases h3
    have hgdone : ∀ j want d, o.guard = some (j, want) → (ops[j]?).bind (·.dst) = some d → d ∈ doneL (fun i => listed.getD i false) 0 ops.toList := fun j want d h2 h3 => by
      have hb : ((befores ops.toList []).getD i 0).testBit j = true := by
        have : ∀ (l : List Oper) (bs : List Nat) (q k : Nat), guardsOk ops.toList q bs l = true → l[k]? = some o → (bs.getD k 0).testBit j = true := fun l => by
          induction l with
          | nil => intro bs q k _ h; simp at h
          | cons x l ih =>
            intro bs q k hg hk
            cases bs with
            | nil => simp [guardsOk] at hg
            | cons b bs =>
              simp only [guardsOk] at hg
              cases k with
              | zero =>
                simp at hk; subst hk
                rw [h2] at hg
                simp only [Bool.and_eq_true] at hg
                exact hg.1.1.2
              | succ k =>
                have hg2 : guardsOk ops.toList (q + 1) bs l = true := by
                  split at hg
                  · exact hg
                  · simp only [Bool.and_eq_true] at hg; exact hg.2
                exact ih bs (q + 1) k hg2 (by simpa using hk)
        exact this _ _ 0 i hgd hoL
      obtain ⟨x, hx, hxd⟩ := Option.bind_eq_some_iff.1 h3
      exact mem_doneL.2 ⟨j, x, by rw [Array.getElem?_toList]; exact hx, by rw [Nat.zero_add]; exact hbef j hb, hxd⟩
    obtain ⟨ids1, ids2⟩ := htr.ids
    have hid : ∀ n, t.id ≤ n → n < t.id + cntOf P o → Fresh a' (stD (fun i => listed.getD i false) 0 tr s) n := fun n hn1 hn2 => inv.fresh n (Nat.le_trans (ids1 i t ht) hn1) (fun k o' u hk ho' hu hc => by
      rcases Nat.lt_trichotomy k i with hlt | rfl | hgt
      · have := ids2 k i o' u t hlt ho' hu ht; omega
      · rw [hDi] at hk; cases hk
      · have := ids2 i k o t u hgt hoL ht hu; omega)
    have next : ∀ a2 w2, After P n0 nt (fun n => t.id ≤ n ∧ n < t.id + cntOf P o) β1 σ1 (stD (fun i => listed.getD i false) 0 tr s) a' w' o.dst t.wr a2 w2 → GI ((stD (fun i => listed.getD i false) 0 tr s).apply t.wr) (o.dst.toList ++ doneL (fun i => listed.getD i false) 0 ops.toList) →
        wpAny P .any ops Q fuel (listed.setIfInBounds i true) a2 w2 := fun a2 w2 haf hgi => by
      refine ih _ a2 w2 (by simp [hsz]) ?_ (fun x y hx hy => ?_) ⟨?_, ?_, fun n hn hno => ?_⟩
      · have hlt : ((List.range ops.size).filter fun j => !(listed.setIfInBounds i true).getD j false).length < ((List.range ops.size).filter fun j => !listed.getD j false).length := by
          refine filter_lt (i := i) (by simp only [hDi]; rfl) (by rw [hset]; simp) (fun x hx => ?_) _ (List.mem_range.2 hisz)
          rw [hset] at hx
          cases hlx : listed.getD x false with
          | false => rfl
          | true => rw [hlx] at hx; simp at hx
        omega
      · rw [hset] at hx ⊢
        by_cases hxi : x = i
        · subst hxi; rw [hbef y hy]; rfl
        · have hx' : listed.getD x false = true := by simpa [hxi] using hx
          rw [hcl x y hx' hy]; rfl
      · obtain ⟨β2, σ2, r1, r2, r3, r4, r5, r6, r7⟩ := haf
        have p2 : Post P n0 nt L (fun n => n ∈ dstList ops.toList) β1 σ1 (stD (fun i => listed.getD i false) 0 tr s) a' w' β2 σ2 ((stD (fun i => listed.getD i false) 0 tr s).apply t.wr) a2 w2 :=
          ⟨r1, r2.weaken (fun n hn => Nat.le_trans (ids1 i t ht) hn.1), r4, r5, r6, fun n hn => r7 n (fun e => hn (mem_dstList hoL e))⟩
        have p3 := (hpost.trans p2 (Nat.le_refl _)).same hsame
        exact ⟨β2, σ2, ⟨p3.sim, p3.ext, p3.cleanB, p3.cleanH, p3.defers, fun n hn => p3.tmps n (fun h => hn (h.elim (fun h => h) (fun h => h)))⟩⟩
      · refine (hgi.same hsame).mono (fun d hd => ?_)
        rcases List.mem_append.1 hd with h | h
        · exact mem_doneL.2 ⟨i, o, hoL, by rw [Nat.zero_add, hset]; simp, by simpa using h⟩
        · obtain ⟨k, o', q1, q2, q3⟩ := mem_doneL.1 h
          exact mem_doneL.2 ⟨k, o', q1, by rw [Nat.zero_add] at q2 ⊢; rw [hset]; simp [q2], q3⟩
      · obtain ⟨β2, σ2, r1, r2, r3, r4⟩ := haf
        refine (r3 n (inv.fresh n hn (fun k o' u hk => hno k o' u (by rw [hset, hk]; rfl))) (fun hc => ?_)).same hsame
        exact hno i o t (by rw [hset]; simp) hoL ht hc
    rcases hgood2 with ⟨as, hrun, has⟩ | ⟨g, f, fns, ls, dm, nx, c, hrun, hc, hn⟩
    · exact opStep_plain hpost.sim inv.gi hgdone hdst hid ho hrun has next
    · exact opStep_call hΓ hpost.sim inv.gi hgdone hdst hid ho hrun (c := c) (by
        cases g with
        | none => exact hc
        | some b => exact hc) hn next

end
end Go.Px
