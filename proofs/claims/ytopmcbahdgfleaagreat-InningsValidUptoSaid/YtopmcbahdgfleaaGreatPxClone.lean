/-
Px: the library's Clone of a slice, by hand: its test against nil is not the executor's.
-/
import Derived.Test.YtopmcbahdgfleaaGreatPxMove
import Derived.WalkSpells
namespace Go.Px
set_option linter.unusedVariables false
set_option linter.unusedSimpArgs false

def isNilConst : Operand → Bool
  | .const (.slice none 0 0) => true
  | _ => false

/-- The two ways of Clone's text: where the slice is nil, and where it is not. -/
def clonePieces (T : TypeId) : Code → Option (Code × Code)
  | .seq (.region _ r0 false) (.seq (.seq (.region _ r1 false) (.cond (.tmp 4) nb .skip)) tail) => match r0.toList, r1.toList with
    | [⟨some 2, .assign (.const _), _, _, _, none⟩], [⟨some 3, .move (.tmp 0), _, _, _, none⟩, ⟨some 4, .binOp .eql U (.tmp 3) z _, _, _, _, none⟩] => match Nat.beq U T && isNilConst z with
      | true => some (nb, tail)
      | false => none
    | _, _ => none
  | _ => none

/-- The state that knows the argument alone. -/
def cloneSt {O : Alg} (e : TypeId) (l : O.L) : State O := { tm := paramTM 0 [.val ⟨false, [.imm e false l]⟩] .e, bx := [], hp := [], st := 1 }

section
variable {E : Env} {N : Nat} {P : Program} {cfg : Cfg} {n0 n0' : Nz} {nt : Nat} {β β' : Nat → Option Nat} {σ σ' : Nat → Option (Nat × Nat)} {s s' s2 : St0 E N} {a a' : Act} {w w' : World}

theorem Sim.put_free (hs : Sim P n0 nt β σ s a w) {d : Nat} {z : Value} (hd : s.getT d = none) (hg : ∀ n tv, s.getT n = some tv → tv.gs = []) : Sim P n0 nt β σ s (a.put (some d) z) w := by
  refine ⟨hs.n0le, by simp [Act.put, hs.size], fun n tv hn => ?_, hs.M⟩
  have hne : n ≠ d := fun e => by rw [e, hd] at hn; cases hn
  rw [getD_put_ne hne]
  have g0 := hg n tv hn
  rcases hs.T n tv hn with ⟨h1, h2⟩ | ⟨h1, h2⟩
  · exact .inl ⟨by rw [g0]; exact fun n b hm => by simp at hm, h2⟩
  · exact (h1 (by rw [g0]; exact fun n b hm => by simp at hm)).elim

theorem wpOp_value {ops : Array Oper} {Q : Exit → Act → World → Prop} {i : Nat} {o : Oper} (ho : ops[i]? = some o) (hg : o.guard = none) {v : Value} (hx : (execOp a.eval o).run P w = .ok (.value v) w) {K : Act → World → Prop} (hK : K (a.put o.dst v) w) : wpOp P ops Q i K a w := by
  unfold wpOp
  simp only [ho, Region.wanted, hg, if_true]
  refine .inl ?_
  unfold Oper.wp
  rw [hx]; exact hK

theorem run_move {d : Option Tmp} {t : TypeId} {p : String} {af : Array Edge} {g : Option (Nat × Bool)} {x : Operand} {v : Value} (h : a.eval x = v) : (execOp a.eval ⟨d, .move x, t, p, af, g⟩).run P w = .ok (.value v) w := by
  subst h; rfl

theorem run_assign {d : Option Tmp} {t : TypeId} {p : String} {af : Array Edge} {g : Option (Nat × Bool)} {x : Operand} {v : Value} (h : a.eval x = v) : (execOp a.eval ⟨d, .assign x, t, p, af, g⟩).run P w = .ok (.value v) w := by
  subst h; rfl

theorem wpOps_one {o : Oper} {Q : Exit → Act → World → Prop} (hg : o.guard = none) {v : Value} (hx : (execOp a.eval o).run P w = .ok (.value v) w) (hK : Q .normal (a.put o.dst v) w) : wpOps P #[o] Q (List.range 1) a w := by
  show wpOps P #[o] Q [0] a w
  rw [wpOps_cons]
  exact wpOp_value rfl hg hx hK

theorem wpOps_two {o o' : Oper} {Q : Exit → Act → World → Prop} (hg : o.guard = none) (hg' : o'.guard = none) {v v' : Value} (hx : (execOp a.eval o).run P w = .ok (.value v) w) (hx' : (execOp (a.put o.dst v).eval o').run P w = .ok (.value v') w)
    (hK : Q .normal ((a.put o.dst v).put o'.dst v') w) : wpOps P #[o, o'] Q (List.range 2) a w := by
  show wpOps P #[o, o'] Q [0, 1] a w
  rw [wpOps_cons]
  refine wpOp_value rfl hg hx ?_
  rw [wpOps_cons]
  exact wpOp_value rfl hg' hx' hK

theorem clone_calls (hmix : P.follows .mixedOrders = true) (hΓ : ∀ ci ∈ cfg.gam, Valid P E N ci ∧ Valid P E N { ci with own := false }) {own own' nw : Bool} (ho : own' = true → own = true) {f : FuncId} {T e : TypeId} {fn : Func} (hfn : P.funcs[f]? = some fn) (hp : fn.params.toList = [T]) (hT : P.underlying T = some (.slice e))
    {body nb tail : Code} (hb : fn.body = some body) (hpc : clonePieces T body = some (nb, tail)) (ht1 : tmpsOk fn.ntmps nb = true) (ht2 : tmpsOk fn.ntmps tail = true) (hna : (an P nb).nrm.isNone = true) (hnt : 5 ≤ fn.ntmps) {lv : Lv} {l : Rows}
    (h1 : l = [] → XL (O := std E N) P cfg 6 nb true lv (cloneSt e l) (finK P own nw fn) = some [.rows l]) (h2 : XL (O := std E N) P cfg 6 tail true lv (cloneSt e l) (finK P own nw fn) = some [.rows l])
    {vs : List (AV (std E N))} {hs : List (Nat × HEnt (std E N))} (hv : argVals (O := std E N) P [] 1 fn.params.toList [] ([PV.rows l].map PV.leaf) = some (vs, hs)) (hn0 : n0.n = w.heap.size) (m : Mem P n0 noB σ (hpSt hs) w) {args : List Value} (hr : RelArgs P n0 noB σ (hpSt hs) w vs args) :
    Calls P f args.toArray w (Ret (E := E) (N := N) P ⟨f, [], own', nw, []⟩ n0 σ (hpSt hs) w fn [.rows l]) := by
  have hlk : lkOf P T = .sl e := by simp [lkOf, hT]
  -- the argument
  obtain ⟨rfl, rfl⟩ : vs = [.val ⟨false, [.imm e false l]⟩] ∧ hs = [] := by
    rw [hp] at hv
    unfold argVals at hv
    simp only [hlk] at hv
    cases ht : tysOf P T with
    | none => rw [ht] at hv; cases hv
    | some ts =>
      rw [ht] at hv
      have : ts = [T] := by
        unfold tysOf at ht
        simp only [tyDepth, cellTys, hT] at ht
        split at ht
        · cases ht; rfl
        · cases ht
      subst this
      have hag : isAggT P T = false := by simp [isAggT, hT]
      simp [argCells, hlk, PV.leaf, argVals, hag] at hv
      exact ⟨hv.1.symm, hv.2⟩
  obtain ⟨v, rfl⟩ : ∃ v, args = [v] := by
    have := hr.len
    match args, this with
    | [v], _ => exact ⟨v, rfl⟩
  have hv0 : RelVal P n0 noB σ (hpSt []) w (⟨false, [.imm e false l]⟩ : Val (std E N)) v := hr.1
  obtain ⟨hc1, hc2⟩ := hv0
  have hc2 : v.oneCell' = true := hc2
  rw [cells_one hc2] at hc1
  obtain ⟨t0, ht0, hrep⟩ : RelC P n0 noB σ (hpSt ([] : List (Nat × HEnt (std E N)))) w (.imm e false l) v := hc1.1
  obtain ⟨ad, len, cap, hvs, hnil⟩ : ∃ ad len cap, v = .slice ad len cap ∧ (ad = none → l = []) := by
    cases hrep with
    | sl v h hts hl hrl hcap hm hv =>
      refine ⟨_, _, _, rfl, fun ha => ?_⟩
      rcases hm with hm | ⟨b, off, hb, _⟩
      · exact List.length_eq_zero_iff.1 (by rw [hl]; exact hm)
      · rw [hb] at ha; cases ha
  subst hvs
  -- the text
  unfold clonePieces at hpc
  split at hpc
  case h_2 => cases hpc
  rename_i i0 r0 i1 r1 nb' tail'
  split at hpc
  case h_2 => cases hpc
  rename_i c0 ty0 pos0 af0 ty1 pos1 af1 U z uT ty2 pos2 af2 hr0 hr1
  split at hpc
  case h_2 => cases hpc
  rename_i hUz
  cases hpc
  simp only [Bool.and_eq_true] at hUz
  have hU := natBeq_iff.1 hUz.1
  subst hU
  obtain rfl : z = .const (.slice none 0 0) := by
    have := hUz.2
    unfold isNilConst at this
    split at this
    · rfl
    · cases this
  have e0 : r0 = #[⟨some 2, .assign (.const c0), ty0, pos0, af0, none⟩] := by apply Array.ext'; exact hr0
  have e1 : r1 = #[⟨some 3, .move (.tmp 0), ty1, pos1, af1, none⟩, ⟨some 4, .binOp .eql U (.tmp 3) (.const (.slice none 0 0)) uT, ty2, pos2, af2, none⟩] := by apply Array.ext'; exact hr1
  subst e0; subst e1
  let sx : St0 E N := { tm := .e, bx := [], hp := [], st := 1 }
  have subx : Sub (hpSt ([] : List (Nat × HEnt (std E N)))) sx := Sub.of_same (fun _ => rfl) (fun _ => rfl)
  have mx : Mem P n0 noB σ sx w := subx.mem m
  have hrx : RelArgs P n0 noB σ sx w [.val ⟨false, [.imm e false l]⟩] [.slice ad len cap] := (subx.ext P (fun _ => False) noB σ w).relArgs hr
  have hfx : ∀ n, sx.st ≤ n → FreshM sx n := fun n hn => ⟨fun k e he => (by cases he), fun k e he => (by cases he)⟩
  have hs1 := sim0 (s := sx) (nt := fn.ntmps) (Nat.le_of_eq hn0) mx hrx
  have wf1 : WF (cloneSt e l : St0 E N) := wf0 (s := sx) hfx (args := [.val ⟨false, [.imm e false l]⟩]) (fun x hx n hn => by simp at hx; subst hx; simp [AV.names, namesCs, AC.names] at hn)
  have hs1 : Sim P n0 (act0 fn.ntmps [.slice ad len cap]).tmps.size noB σ (cloneSt e l : St0 E N) (act0 fn.ntmps [.slice ad len cap]) w := hs1
  have subs1 : Sub sx (cloneSt e l : St0 E N) := Sub.of_same (fun _ => rfl) (fun _ => rfl)
  have free : ∀ d, d ≠ 0 → (cloneSt e l : St0 E N).getT d = none := fun d hd => by
    cases hx : (cloneSt e l : St0 E N).getT d with
    | none => rfl
    | some tv =>
      have hx : getTM (paramTM 0 [.val ⟨false, [.imm e false l]⟩] (.e : TM (TV (std E N)))) d = some tv := hx
      rcases paramTM_get hx with h | ⟨_, v, h1, _⟩
      · rw [getTM_e] at h; cases h
      · have := (List.getElem?_eq_some_iff.1 h1).1
        simp at this; omega
  have hs2 := ((hs1.put_free (d := 2) (z := c0) (free 2 (by omega)) wf1.gs).put_free (d := 3) (z := .slice ad len cap) (free 3 (by omega)) wf1.gs).put_free (d := 4) (z := .bool ad.isNone) (free 4 (by omega)) wf1.gs
  have hsz := act0_size (nt := fn.ntmps) (vals := [.slice ad len cap])
  have ht1' := tmpsOk_mono hsz ht1
  have ht2' := tmpsOk_mono hsz ht2
  have x0 : ∀ {β' : Nat → Option Nat} {σ' : Nat → Option (Nat × Nat)} {s' : St0 E N} {w' : World}, Ext P (fun n => (cloneSt e l : St0 E N).st ≤ n) noB σ (cloneSt e l) w β' σ' s' w' → Ext P (fun _ => True) noB σ (hpSt ([] : List (Nat × HEnt (std E N)))) w β' σ' s' w' := fun x =>
    (((subx.ext P (fun _ => False) noB σ w).trans (subs1.ext P (fun _ => False) noB σ w)).trans x).weaken (fun _ _ => trivial)
  have hget0 : ((act0 fn.ntmps [Value.slice ad len cap]).put (some 2) c0).tmps.getD 0 undef = .slice ad len cap := by
    rw [getD_put_ne (by omega)]
    simp only [act0]
    rw [Array.getD_eq_getD_getElem?, Array.getElem?_append_left (by simp)]
    rfl
  have hget3 : (((act0 fn.ntmps [Value.slice ad len cap]).put (some 2) c0).put (some 3) (.slice ad len cap)).tmps.getD 3 undef = .slice ad len cap := by
    refine getD_put_same ?_
    have : 5 ≤ (act0 fn.ntmps [Value.slice ad len cap]).tmps.size := Nat.le_trans hnt hsz
    simp [Act.put]; omega
  have hget4 : ((((act0 fn.ntmps [Value.slice ad len cap]).put (some 2) c0).put (some 3) (.slice ad len cap)).put (some 4) (.bool ad.isNone)).tmps.getD 4 undef = .bool ad.isNone := by
    refine getD_put_same ?_
    have : 5 ≤ (act0 fn.ntmps [Value.slice ad len cap]).tmps.size := Nat.le_trans hnt hsz
    simp [Act.put]; omega
  generalize hB : bodyPost P fn (Ret (E := E) (N := N) P ⟨f, [], own', nw, []⟩ n0 σ (hpSt []) w fn [.rows l]) = B
  generalize hA : (((act0 fn.ntmps [Value.slice ad len cap]).put (some 2) c0).put (some 3) (.slice ad len cap)).put (some 4) (.bool ad.isNone) = A at hs2 hget4
  have hAd : A.defers = [] := by rw [← hA]; rfl
  have fin : (Code.cond (.tmp 4) nb Code.skip).wp P (Exit.then (tail.wp P B) B) A w := by
    refine wp_cond_split (t := ad.isNone) (c := .tmp 4) (a := A) hget4 (fun ht => ?_) (fun ht => ?_)
    · have hl := hnil (by cases ad with | none => rfl | some _ => simp at ht)
      refine XL_ok hmix hΓ 6 n0 _ _ ht1' _ _ _ _ _ noB σ _ w _ (h1 hl) hs2 wf1 (fun ex s' β' σ' a' w' hk mm hmm hp wf' hle => ?_)
      have hfin := fin_ok (f := f) (fns := []) (gives := []) (fn := fn) ho hp.sim (hp.defers.trans hAd) (x0 hp.ext) hk
      rw [hB] at hfin
      cases ex with
      | nrm =>
        have : (an P nb).nrm = some mm := hmm
        rw [this] at hna; cases hna
      | ret => exact hfin
      | ext id => exact hfin
    · refine wp_skip ?_
      refine XL_ok hmix hΓ 6 n0 _ _ ht2' _ _ _ _ _ noB σ _ w B h2 hs2 wf1 (fun ex s' β' σ' a' w' hk mm hmm hp wf' hle => ?_)
      rw [← hB]
      exact fin_ok ho hp.sim (hp.defers.trans hAd) (x0 hp.ext) hk
  refine calls_of_wp hfn hb ?_
  rw [hB]
  refine wp_seq (wp_region (wpOps_one (o := ⟨some 2, .assign (.const c0), ty0, pos0, af0, none⟩) rfl (v := c0) (run_assign (x := .const c0) rfl) ?_))
  show (Code.seq (Code.seq _ _) tail).wp P B ((act0 fn.ntmps [Value.slice ad len cap]).put (some 2) c0) w
  refine wp_seq (wp_seq (wp_region (wpOps_two (o := ⟨some 3, .move (.tmp 0), ty1, pos1, af1, none⟩) (o' := ⟨some 4, .binOp .eql U (.tmp 3) (.const (.slice none 0 0)) uT, ty2, pos2, af2, none⟩) rfl rfl (v := .slice ad len cap) (v' := .bool ad.isNone)
    (run_move (a := (act0 fn.ntmps [Value.slice ad len cap]).put (some 2) c0) (x := .tmp 0) hget0) (exec_v (x := do eqGuard .eql U (.tmp 3) (.const (.slice none 0 0)) ((((act0 fn.ntmps [Value.slice ad len cap]).put (some 2) c0).put (some 3) (.slice ad len cap)).eval (.tmp 3)) (.slice none 0 0); Go.binOp .eql U ((((act0 fn.ntmps [Value.slice ad len cap]).put (some 2) c0).put (some 3) (.slice ad len cap)).eval (.tmp 3)) (.slice none 0 0)) (by simp [execOp, Act.eval]) (by
    rw [show ((((act0 fn.ntmps [Value.slice ad len cap]).put (some 2) c0).put (some 3) (.slice ad len cap)).eval (.tmp 3)) = .slice ad len cap from hget3]
    exact run_guarded_bin (eqGuard_plain _ _ _ _ _ _ rfl (by simp)) (Lib.run_eql_slice_nil (P := P) w U e ad len cap 0 0 hT))) ?_)))
  rw [← hA] at fin
  exact fin

end
end Go.Px
