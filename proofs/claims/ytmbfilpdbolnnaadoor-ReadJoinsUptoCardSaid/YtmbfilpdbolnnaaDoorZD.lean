/- Part ZD of the proof. -/
import Derived.Test.YtmbfilpdbolnnaaDoorZC
import Derived.Test.YtmbfilpdbolnnaaDoorA3
set_option linter.unusedVariables false
set_option linter.unusedSimpArgs false
namespace Go.AM
attribute [-simp] List.length_flatten List.map_flatten List.map_take List.map_map List.flatten_append
/-! Two cursors that see the same, up to the line's end. -/
def sfx (c : Cur) : List UInt8 := c.s.drop c.at'
theorem drop_cons {s : List UInt8} {a : Nat} {x : UInt8} {t : List UInt8} (h : s.drop a = x :: t) : a < s.length ∧ nth s a = x ∧ s.drop (a + 1) = t := by
  have hl : a < s.length := by
    by_cases h' : a < s.length
    · exact h'
    · rw [List.drop_of_length_le (by omega)] at h; cases h
  rw [List.drop_eq_getElem_cons hl, ← nth_eq hl] at h
  injection h with h1 h2
  exact ⟨hl, h1, h2⟩
theorem sees_sfx {c : Cur} {b x : UInt8} {t : List UInt8} (h : sfx c = x :: t) : seesC c b = (decide (c.e = 0) && decide (x = b)) := by
  obtain ⟨h1, h2, h3⟩ := drop_cons h
  rw [seesC, h2, decide_eq_true h1, Bool.true_and]
/-- k: how much further the second one stands; r, r': what stands behind the line. -/
structure Sm (k : Nat) (r r' : List UInt8) (u : List UInt8) (c c' : Cur) : Prop where
  at' : c'.at' = c.at' + k
  ops : c'.ops = c.ops
  e : c'.e = c.e
  no : (10 : UInt8) ∉ u
  s : sfx c = u ++ 10 :: r
  s' : sfx c' = u ++ 10 :: r'
section
variable {k : Nat} {r r' u : List UInt8} {c c' : Cur}
theorem Sm.sees (h : Sm k r r' u c c') (b : UInt8) : seesC c' b = seesC c b := by
  cases u with
  | nil => rw [sees_sfx (t := r) h.s, sees_sfx (t := r') h.s', h.e]
  | cons x u => rw [sees_sfx (t := u ++ 10 :: r) h.s, sees_sfx (t := u ++ 10 :: r') h.s', h.e]
theorem Sm.fail (h : Sm k r r' u c c') (e : Int) : Sm k r r' u (failC c e) (failC c' e) := by
  unfold failC; rw [h.e]; split
  · exact ⟨h.at', h.ops, rfl, h.no, h.s, h.s'⟩
  · exact h
/-- n signs are gone over. -/
theorem Sm.go (h : Sm k r r' u c c') {n : Nat} (hn : n ≤ u.length) : Sm k r r' (u.drop n) { c with at' := c.at' + n } { c' with at' := c'.at' + n } := by
  refine ⟨?_, h.ops, h.e, fun h' => h.no (List.mem_of_mem_drop h'), ?_, ?_⟩
  · show c'.at' + n = c.at' + n + k
    rw [h.at']; omega
  · show c.s.drop (c.at' + n) = _
    have := h.s; unfold sfx at this
    rw [← List.drop_drop, this, List.drop_append_of_le_length hn]
  · show c'.s.drop (c'.at' + n) = _
    have := h.s'; unfold sfx at this
    rw [← List.drop_drop, this, List.drop_append_of_le_length hn]
theorem Sm.take (h : Sm k r r' u c c') {b : UInt8} (hb : b ≠ 10) : ∃ u', Sm k r r' u' (takeC c b) (takeC c' b) := by
  unfold takeC; rw [h.sees b]; split
  · rename_i hs
    refine ⟨u.drop 1, h.go ?_⟩
    cases u with
    | nil =>
      rw [sees_sfx (t := r) h.s] at hs
      simp only [Bool.and_eq_true, decide_eq_true_eq] at hs
      exact absurd hs.2.symm hb
    | cons x u => simp
  · exact ⟨u, h⟩
theorem Sm.must (h : Sm k r r' u c c') {b : UInt8} (hb : b ≠ 10) : ∃ u', Sm k r r' u' (mustC c b) (mustC c' b) := by
  obtain ⟨u', h'⟩ := h.take hb
  unfold mustC; rw [h.sees b]; split
  · exact ⟨u', h'⟩
  · exact ⟨u', h'.fail 2⟩
theorem tw_app {p : UInt8 → Bool} (hp : p 10 = false) (u r : List UInt8) : (u ++ 10 :: r).takeWhile p = u.takeWhile p := by
  induction u with
  | nil => simp [hp]
  | cons a u ih =>
    simp only [List.cons_append, List.takeWhile_cons, ih]
theorem tw_le {p : UInt8 → Bool} (u : List UInt8) : (u.takeWhile p).length ≤ u.length := by
  have := tw_dw (p := p) u; omega
theorem Sm.nameN (h : Sm k r r' u c c') : Go.AM.nameN c' = Go.AM.nameN c ∧ Go.AM.nameN c ≤ u.length := by
  have h1 := h.s; have h2 := h.s'; unfold sfx at h1 h2
  unfold Go.AM.nameN
  rw [h1, h2, tw_app (by decide), tw_app (by decide), h.e]
  refine ⟨rfl, ?_⟩
  split
  · have := tw_le (p := low) u; omega
  · omega
theorem Sm.name (h : Sm k r r' u c c') : (∃ u', Sm k r r' u' (nameC c) (nameC c')) ∧ (c'.s.drop c'.at').take (Go.AM.nameN c') = (c.s.drop c.at').take (Go.AM.nameN c) := by
  obtain ⟨h1, h2⟩ := h.nameN
  constructor
  · unfold nameC; rw [h1]; split
    · exact ⟨u, h.fail 2⟩
    · exact ⟨_, h.go h2⟩
  · have h3 := h.s; have h4 := h.s'; unfold sfx at h3 h4
    rw [h1, h3, h4, List.take_append_of_le_length h2, List.take_append_of_le_length h2]
theorem sgn_app (u r r' : List UInt8) : sgn (u ++ 10 :: r) = sgn (u ++ 10 :: r') ∧ sgn (u ++ 10 :: r) ≤ u.length := by
  cases u with
  | nil => exact ⟨rfl, by simp [sgn]⟩
  | cons x u =>
    constructor
    · simp only [sgn, List.cons_append, List.isPrefixOf]
    · simp only [sgn, List.cons_append, List.isPrefixOf]
      split <;> simp
theorem spanR_app (u r r' : List UInt8) : spanR (u ++ 10 :: r) = spanR (u ++ 10 :: r') ∧ spanR (u ++ 10 :: r) ≤ u.length := by
  obtain ⟨h1, h2⟩ := sgn_app u r r'
  unfold spanR
  rw [← h1, List.drop_append_of_le_length h2, List.drop_append_of_le_length h2, tw_app (by decide), tw_app (by decide)]
  refine ⟨rfl, ?_⟩
  have := tw_le (p := dig) (u.drop (sgn (u ++ 10 :: r)))
  rw [List.length_drop] at this; omega
theorem span_sfx {c : Cur} {x : UInt8} {t : List UInt8} (h : sfx c = x :: t) : (spanI c.s c.at').toNat = spanR (sfx c) := by
  obtain ⟨h1, h2, h3⟩ := drop_cons h
  unfold spanI sfx
  rw [if_neg (by omega)]; rfl
theorem ne_cons (u r : List UInt8) : ∃ x t, u ++ 10 :: r = x :: t := by
  cases u with
  | nil => exact ⟨_, _, rfl⟩
  | cons x u => exact ⟨_, _, rfl⟩
theorem Sm.number (h : Sm k r r' u c c') : (∃ u', Sm k r r' u' (numberC c) (numberC c')) ∧ numberV c' = numberV c := by
  have hs : (spanI c.s c.at').toNat = spanR (u ++ 10 :: r) := by
    obtain ⟨x, t, hx⟩ := ne_cons u r
    rw [span_sfx (h.s.trans hx), h.s]
  have hs' : (spanI c'.s c'.at').toNat = spanR (u ++ 10 :: r') := by
    obtain ⟨x, t, hx⟩ := ne_cons u r'
    rw [span_sfx (h.s'.trans hx), h.s']
  obtain ⟨h1, h2⟩ := spanR_app u r r'
  have hT : numT c' = numT c := by
    have h3 := h.s; have h4 := h.s'; unfold sfx at h3 h4
    unfold numT
    rw [hs, hs', h3, h4, ← h1, List.take_append_of_le_length h2, List.take_append_of_le_length h2]
  constructor
  · unfold numberC
    rw [hT, hs, hs', ← h1]
    by_cases h0 : c.e = 0
    · rw [if_pos h0, if_pos (h.e.trans h0)]
      split
      · exact ⟨_, h.go h2⟩
      · exact ⟨u, h.fail _⟩
    · rw [if_neg h0, if_neg (by rw [h.e]; exact h0)]
      exact ⟨u, h⟩
  · unfold numberV; rw [hT, h.e]
theorem Sm.op (h : Sm k r r' u c c') : (∃ u', Sm k r r' u' (opC c) (opC c')) ∧ opV c' = opV c := by
  obtain ⟨u1, h1⟩ : ∃ u', Sm k r r' u' (op1 c) (op1 c') := by
    unfold op1; rw [h.ops, h.sees, h.sees]; split
    · exact ⟨u, h.fail 3⟩
    · exact ⟨u, h⟩
  obtain ⟨u2, h2⟩ : ∃ u', Sm k r r' u' (op2 c) (op2 c') := h1.take (by decide)
  obtain ⟨u3, h3⟩ : ∃ u', Sm k r r' u' (op3 c) (op3 c') := by
    unfold op3; rw [h1.sees]; split
    · exact ⟨u2, h2⟩
    · exact h2.must (by decide)
  obtain ⟨u4, h4⟩ : ∃ u', Sm k r r' u' (op4 c) (op4 c') := h3.must (by decide)
  obtain ⟨⟨u5, h5⟩, hn⟩ := h4.name
  obtain ⟨u6, h6⟩ : ∃ u', Sm k r r' u' (op6 c) (op6 c') := Sm.must (c := op5 c) (c' := op5 c') h5 (by decide)
  obtain ⟨⟨u7, h7⟩, hv⟩ := h6.number
  refine ⟨⟨u7, h7.at', ?_, h7.e, h7.no, h7.s, h7.s'⟩, ?_⟩
  · show (op7 c').ops + 1 = (op7 c).ops + 1
    rw [show (op7 c').ops = (op7 c).ops from h7.ops]
  · unfold opV; rw [h1.sees, hn, hv]
theorem Sm.more : ∀ {m : Nat} {u : List UInt8} {c c' : Cur}, Sm k r r' u c c' → ∀ {m' : Nat}, (sfx c).length ≤ m → (sfx c').length ≤ m' → (∃ u', Sm k r r' u' (moreC m c).2 (moreC m' c').2) ∧ (moreC m' c').1 = (moreC m c).1 := by
  intro m
  induction m with
  | zero => intro u c c' h m' hm; rw [h.s] at hm; simp at hm
  | succ m ih =>
    intro u c c' h m' hm hm'
    cases m' with
    | zero => rw [h.s'] at hm'; simp at hm'
    | succ m' =>
      unfold moreC
      rw [h.sees]
      split
      · rename_i hs
        obtain ⟨u1, h1⟩ := h.take (b := 32) (by decide)
        obtain ⟨⟨u2, h2⟩, hv⟩ := h1.op
        have hs' : seesC c' 32 = true := by rw [h.sees]; exact hs
        have k1 : (sfx (opC (takeC c 32))).length ≤ m := by
          have h5 := op_at (takeC c 32)
          rw [take_yes hs] at h5 ⊢
          have h6 := (op_cs { c with at' := c.at' + 1 }).1
          unfold sfx at hm ⊢
          rw [h6]
          rw [List.length_drop] at hm ⊢
          simp only at h5 ⊢
          have := (sees_lt hs).2.1
          omega
        have k2 : (sfx (opC (takeC c' 32))).length ≤ m' := by
          have h5 := op_at (takeC c' 32)
          rw [take_yes hs'] at h5 ⊢
          have h6 := (op_cs { c' with at' := c'.at' + 1 }).1
          unfold sfx at hm' ⊢
          rw [h6]
          rw [List.length_drop] at hm' ⊢
          simp only at h5 ⊢
          have := (sees_lt hs').2.1
          omega
        obtain ⟨h7, h8⟩ := ih h2 k1 k2
        exact ⟨h7, by rw [hv, h8]⟩
      · exact ⟨⟨u, h⟩, rfl⟩
/-- A line, read alike. -/
theorem Sm.line (h : Sm k r r' u c c') : (lineC c').at' = (lineC c).at' + k ∧ (lineC c').ops = (lineC c).ops ∧ (lineC c').e = (lineC c).e ∧ lineV c' = lineV c ∧ ((lineC c).e = 0 → sfx (lineC c) = r ∧ sfx (lineC c') = r') := by
  have fin : ∀ {u : List UInt8} {c c' : Cur}, Sm k r r' u c c' → seesC c 10 = true → ({ c' with at' := c'.at' + 1 } : Cur).at' = ({ c with at' := c.at' + 1 } : Cur).at' + k ∧ sfx { c with at' := c.at' + 1 } = r ∧ sfx { c' with at' := c'.at' + 1 } = r' := by
    intro u c c' h hs
    cases u with
    | nil => exact ⟨by show c'.at' + 1 = c.at' + 1 + k; rw [h.at']; omega, (drop_cons (t := r) h.s).2.2, (drop_cons (t := r') h.s').2.2⟩
    | cons x u =>
      rw [sees_sfx (t := u ++ 10 :: r) h.s] at hs
      simp only [Bool.and_eq_true, decide_eq_true_eq] at hs
      exact absurd (by rw [hs.2]; exact List.mem_cons_self) h.no
  unfold lineC lineV
  rw [h.sees]
  split
  · rename_i hs
    have hs' : seesC c' 10 = true := by rw [h.sees]; exact hs
    rw [take_yes hs, take_yes hs']
    obtain ⟨h1, h2, h3⟩ := fin h hs
    exact ⟨h1, h.ops, h.e, rfl, fun _ => ⟨h2, h3⟩⟩
  · obtain ⟨⟨u1, h1⟩, hv⟩ := h.op
    have k1 : (sfx (opC c)).length ≤ c.s.length := by unfold sfx; rw [List.length_drop, (op_cs c).1]; omega
    have k2 : (sfx (opC c')).length ≤ c'.s.length := by unfold sfx; rw [List.length_drop, (op_cs c').1]; omega
    obtain ⟨⟨u2, h2⟩, h3⟩ := h1.more k1 k2
    rw [hv, h3]
    generalize (moreC c.s.length (opC c)).2 = d at *
    generalize (moreC c'.s.length (opC c')).2 = d' at *
    by_cases hs : seesC d 10 = true
    · have hs' : seesC d' 10 = true := by rw [h2.sees]; exact hs
      rw [must_yes hs, must_yes hs']
      obtain ⟨h4, h5, h6⟩ := fin h2 hs
      exact ⟨h4, h2.ops, h2.e, rfl, fun _ => ⟨h5, h6⟩⟩
    · have hs' : ¬ seesC d' 10 = true := by rw [h2.sees]; exact hs
      have he : ∀ c : Cur, ¬ seesC c 10 = true → mustC c 10 = failC c 2 := fun c h => by rw [mustC, if_neg h, take_no h]
      rw [he d hs, he d' hs']
      have h4 := h2.fail 2
      refine ⟨h4.at', h4.ops, h4.e, rfl, fun h0 => ?_⟩
      exfalso
      unfold failC at h0
      split at h0
      · cases h0
      · contradiction
end
end Go.AM

set_option linter.unusedVariables false
set_option linter.unusedSimpArgs false
namespace Go.AM
attribute [-simp] List.length_flatten List.map_flatten List.map_take List.map_map List.flatten_append
/-! What may be wrong. -/
def ok3 (c : Cur) : Prop := c.e = 0 ∨ c.e = 2 ∨ c.e = 3
theorem getS_e (s : List UInt8) : (getS s).2 = 0 ∨ (getS s).2 = 2 ∨ (getS s).2 = 3 := by
  unfold getS
  repeat' split
  all_goals simp
theorem fail_3 {c : Cur} {e : Int} (h : ok3 c) (he : e = 0 ∨ e = 2 ∨ e = 3) : ok3 (failC c e) := by
  unfold failC; split
  · exact he
  · exact h
theorem take_3 {c : Cur} {b : UInt8} (h : ok3 c) : ok3 (takeC c b) := by
  unfold takeC; split <;> exact h
theorem must_3 {c : Cur} {b : UInt8} (h : ok3 c) : ok3 (mustC c b) := by
  unfold mustC; split
  · exact take_3 h
  · exact fail_3 (take_3 h) (.inr (.inl rfl))
theorem name_3 {c : Cur} (h : ok3 c) : ok3 (nameC c) := by
  unfold nameC; split
  · exact fail_3 h (.inr (.inl rfl))
  · exact h
theorem number_3 {c : Cur} (h : ok3 c) : ok3 (numberC c) := by
  unfold numberC; split
  · split
    · exact h
    · exact fail_3 h (getS_e _)
  · exact h
theorem op_3 {c : Cur} (h : ok3 c) : ok3 (opC c) := by
  have h1 : ok3 (op1 c) := by
    unfold op1; split
    · exact fail_3 h (.inr (.inr rfl))
    · exact h
  have h3 : ok3 (op3 c) := by
    unfold op3; split
    · exact take_3 h1
    · exact must_3 (take_3 h1)
  have h7 : ok3 (op7 c) := number_3 (must_3 (name_3 (must_3 h3)))
  exact h7
theorem more_3 : ∀ {m : Nat} {c : Cur}, ok3 c → ok3 (moreC m c).2
  | 0, _, h => h
  | m + 1, c, h => by
    unfold moreC; split
    · exact more_3 (op_3 (take_3 h))
    · exact h
theorem line_3 {c : Cur} (h : ok3 c) : ok3 (lineC c) := by
  unfold lineC; split
  · exact take_3 h
  · exact must_3 (more_3 (op_3 h))
theorem text_3 : ∀ {m : Nat} {c : Cur}, ok3 c → ok3 (textC m c).2
  | 0, _, h => h
  | m + 1, c, h => by
    unfold textC; split
    · exact text_3 (line_3 h)
    · exact h
/-! An operation that is read is right. -/
theorem must_e0 {c : Cur} {b : UInt8} (h : (mustC c b).e = 0) : c.e = 0 := (sees_lt (must_e h)).1
theorem name_e0 {c : Cur} (h : (nameC c).e = 0) : c.e = 0 ∧ nameN c ≠ 0 := by
  unfold nameC at h
  split at h
  · unfold failC at h
    split at h
    · cases h
    · contradiction
  · exact ⟨h, by assumption⟩
theorem number_e0 {c : Cur} (h : (numberC c).e = 0) : c.e = 0 := by
  unfold numberC at h
  split at h
  · assumption
  · exact h
theorem op_right {c : Cur} (h : (opC c).e = 0) : nameB (opV c).v = true ∧ c.ops ≠ 4096 ∧ c.e = 0 := by
  have h6 : (op6 c).e = 0 := number_e0 h
  have h5 : (op5 c).e = 0 := must_e0 h6
  obtain ⟨h4, hn⟩ := name_e0 h5
  have h3 : (op3 c).e = 0 := must_e0 h4
  have h1 : (op1 c).e = 0 ∧ (seesC (op1 c) 119 = true ∨ seesC (op1 c) 114 = true) := by
    unfold op3 at h3
    split at h3
    · rename_i hs
      exact ⟨(sees_lt hs).1, .inl hs⟩
    · rename_i hs
      have h2 := must_e h3
      rw [show op2 c = op1 c from take_no hs] at h2
      exact ⟨(sees_lt h2).1, .inr h2⟩
  refine ⟨?_, ?_⟩
  · have hN := hn
    unfold nameN at hN
    rw [if_pos h4] at hN
    show nameB ((((op4 c).s.drop (op4 c).at').take (nameN (op4 c)))) = true
    generalize hl : (op4 c).s.drop (op4 c).at' = l at *
    have hm : nameN (op4 c) = min 8 (l.takeWhile low).length := by rw [nameN, if_pos h4, hl]
    rw [hm]
    have hle := tw_le (p := low) l
    have hall : (l.take (min 8 (l.takeWhile low).length)).all low = true := by
      have : l.take (min 8 (l.takeWhile low).length) = (l.takeWhile low).take (min 8 (l.takeWhile low).length) := by
        conv => lhs; rw [← List.takeWhile_append_dropWhile (p := low) (l := l)]
        rw [List.take_append_of_le_length (by rw [List.takeWhile_append_dropWhile]; omega), List.takeWhile_append_dropWhile]
      rw [this]
      exact List.all_eq_true.2 fun x hx => List.all_eq_true.1 List.all_takeWhile x (List.mem_of_mem_take hx)
    have hlen : (l.take (min 8 (l.takeWhile low).length)).length = min 8 (l.takeWhile low).length := by rw [List.length_take]; omega
    rw [nameB, hall, hlen]
    simp; omega
  · by_cases hs : small c
    · rw [op1_id hs] at h1
      exact ⟨fun h0 => hs ⟨h0, h1.2⟩, h1.1⟩
    · have : (op1 c).e ≠ 0 ∨ c.e = 0 := by
        by_cases h0 : c.e = 0
        · exact .inr h0
        · exact .inl (by rw [op1, if_pos (Decidable.not_not.1 hs), stuck_fail h0]; exact h0)
      have h0 := this.resolve_left (fun h' => h' h1.1)
      rw [op_large h0 hs] at h
      cases h
theorem more_right : ∀ {m : Nat} {c : Cur}, (moreC m c).2.e = 0 → c.ops ≤ 4096 → c.e = 0 ∧ (moreC m c).2.ops ≤ 4096 ∧ ∀ o ∈ (moreC m c).1, nameB o.v = true
  | 0, c, h, hn => ⟨h, hn, fun o ho => by cases ho⟩
  | m + 1, c, h, hn => by
    unfold moreC at h ⊢; split
    · rename_i hs
      rw [if_pos hs] at h
      have hT : (takeC c 32).ops = c.ops := (take_s _ _).2.1
      have key : (opC (takeC c 32)).e = 0 := by
        by_cases h0 : (opC (takeC c 32)).e = 0
        · exact h0
        · rw [stuck_more h0] at h; exact h
      obtain ⟨h1, h2, h3⟩ := op_right key
      obtain ⟨-, h5, h6⟩ := more_right (m := m) h (by rw [(op_cs _).2]; omega)
      refine ⟨(sees_lt hs).1, h5, fun o ho => ?_⟩
      rcases List.mem_cons.1 ho with rfl | ho
      · exact h1
      · exact h6 o ho
    · rename_i hs
      rw [if_neg hs] at h
      exact ⟨h, hn, fun o ho => by cases ho⟩
theorem line_right {c : Cur} (h : (lineC c).e = 0) (hn : c.ops ≤ 4096) : c.e = 0 ∧ (lineC c).ops ≤ 4096 ∧ nth c.s ((lineC c).at' - 1) = 10 ∧ ∀ o ∈ lineV c, nameB o.v = true := by
  unfold lineC lineV at *
  split
  · rename_i hs
    rw [take_yes hs]
    obtain ⟨h1, h2, h3⟩ := sees_lt hs
    exact ⟨h1, hn, h3, fun o ho => by cases ho⟩
  · rename_i hs
    rw [if_neg hs] at h
    have h1 := must_e h
    have h2 := (sees_lt h1).1
    have h3 : (opC c).e = 0 := by
      by_cases h0 : (opC c).e = 0
      · exact h0
      · rw [stuck_more h0] at h2; exact h2
    obtain ⟨k1, k2, k3⟩ := op_right h3
    obtain ⟨-, h5, h6⟩ := more_right h2 (by rw [(op_cs _).2]; omega)
    refine ⟨k3, by rw [(must_s _ _).2]; exact h5, ?_, fun o ho => ?_⟩
    · rw [must_yes h1]
      have h7 := (sees_lt h1).2.2
      rw [more_s, (op_cs _).1] at h7
      exact h7
    · rcases List.mem_cons.1 ho with rfl | ho
      · exact k1
      · exact h6 o ho
theorem text_right : ∀ {m : Nat} {c : Cur}, (textC m c).2.e = 0 → c.ops ≤ 4096 → okL c → c.s.length - c.at' ≤ m → (c.at' = 0 ∨ nth c.s (c.at' - 1) = 10) → (textC m c).2.ops ≤ 4096 ∧ (∀ o ∈ (textC m c).1.flatten, nameB o.v = true) ∧ (textC m c).2.at' = c.s.length ∧ (c.s.length = 0 ∨ nth c.s (c.s.length - 1) = 10)
  | 0, c, h, hn, ok, hm, h10 => by
    have h1 := ok.1.1
    have h2 : c.at' = c.s.length := by omega
    exact ⟨hn, (fun o ho => by simp [textC] at ho), h2, (by rw [← h2]; exact h10)⟩
  | m + 1, c, h, hn, ok, hm, h10 => by
    unfold textC at h ⊢; split
    · rename_i hc
      rw [if_pos hc] at h
      have he : (lineC c).e = 0 := by
        by_cases h0 : (lineC c).e = 0
        · exact h0
        · rw [stuck_text h0] at h; exact h
      obtain ⟨-, h1, h2, h3⟩ := line_right he hn
      obtain ⟨k1, k2⟩ := line_ops ok he
      obtain ⟨k3, k4, k5, k6⟩ := text_right (m := m) h h1 k1 (by rw [line_s]; omega) (by rw [line_s]; exact .inr h2)
      rw [line_s] at k5 k6
      refine ⟨k3, fun o ho => ?_, k5, k6⟩
      rw [List.flatten_cons] at ho
      rcases List.mem_append.1 ho with ho | ho
      · exact h3 o ho
      · exact k4 o ho
    · rename_i hc
      rw [if_neg hc] at h
      have h1 := ok.1.1
      have h2 : c.at' = c.s.length := by
        by_cases h' : c.at' < c.s.length
        · exact absurd ⟨h, h'⟩ hc
        · omega
      exact ⟨hn, (fun o ho => by simp [textC] at ho), h2, (by rw [← h2]; exact h10)⟩
theorem read_right {s : List UInt8} (hs : s.length ≤ 1048576) (he : (readT s).2.e = 0) : rightB (readT s).1 = true ∧ (s.length = 0 ∨ nth s (s.length - 1) = 10) := by
  obtain ⟨h1, h2, h3, h4⟩ := text_right (m := s.length) (c := ⟨s, 0, 0, 0⟩) he (Nat.zero_le _) ⟨⟨Nat.zero_le _, hs⟩, Nat.le_refl _⟩ (Nat.le_refl _) (.inl rfl)
  refine ⟨?_, h4⟩
  have h5 := (read_inv hs).2.1
  rw [rightB, Bool.and_eq_true, List.all_eq_true, decide_eq_true_eq]
  exact ⟨h2, by rw [h5]; exact h1⟩
/-- A line without an end. -/
theorem line_open {c : Cur} (h : (10 : UInt8) ∉ sfx c) : ¬ (lineC c).e = 0 := by
  intro he
  have key : ∀ d : Cur, d.s = c.s → c.at' ≤ d.at' → seesC d 10 = true → False := fun d hs ha h' => by
    obtain ⟨h1, h2, h3⟩ := sees_lt h'
    rw [hs] at h2 h3
    refine h ?_
    unfold sfx
    rw [← h3, nth_eq h2, List.mem_iff_getElem]
    exact ⟨d.at' - c.at', by rw [List.length_drop]; omega, by rw [List.getElem_drop]; congr 1; omega⟩
  unfold lineC at he
  split at he
  · rename_i hs; exact key c rfl (Nat.le_refl _) hs
  · refine key _ (more_s.trans (op_cs _).1) ?_ (must_e he)
    exact Nat.le_trans (op_at c) more_at
end Go.AM

set_option linter.unusedVariables false
set_option linter.unusedSimpArgs false
namespace Go.AM
attribute [-simp] List.length_flatten List.map_flatten List.map_take List.map_map List.flatten_append
/-! Two cursors that see the same to the end. -/
theorem sees_s (c : Cur) (b : UInt8) : seesC c b = (decide (c.e = 0) && decide ((sfx c).head? = some b)) := by
  by_cases h : c.at' < c.s.length
  · have hd : sfx c = nth c.s c.at' :: c.s.drop (c.at' + 1) := by
      unfold sfx; rw [List.drop_eq_getElem_cons h, ← nth_eq h]
    rw [sees_sfx hd, hd]; simp
  · have hd : sfx c = [] := by unfold sfx; exact List.drop_of_length_le (by omega)
    rw [hd, seesC, decide_eq_false h]; simp
structure Rl (k j : Nat) (c c' : Cur) : Prop where
  at' : c'.at' = c.at' + k
  ops : c'.ops = c.ops + j
  e : c'.e = c.e
  s : sfx c' = sfx c
section
variable {k j : Nat} {c c' : Cur}
theorem Rl.sees (h : Rl k j c c') (b : UInt8) : seesC c' b = seesC c b := by rw [sees_s, sees_s, h.e, h.s]
theorem Rl.fail (h : Rl k j c c') (e : Int) : Rl k j (failC c e) (failC c' e) := by
  unfold failC; rw [h.e]; split
  · exact ⟨h.at', h.ops, rfl, h.s⟩
  · exact h
theorem Rl.go (h : Rl k j c c') (m : Nat) : Rl k j { c with at' := c.at' + m } { c' with at' := c'.at' + m } := by
  refine ⟨?_, h.ops, h.e, ?_⟩
  · show c'.at' + m = c.at' + m + k
    rw [h.at']; omega
  · show c'.s.drop (c'.at' + m) = c.s.drop (c.at' + m)
    have := h.s; unfold sfx at this
    rw [← List.drop_drop, this, List.drop_drop]
theorem Rl.take (h : Rl k j c c') (b : UInt8) : Rl k j (takeC c b) (takeC c' b) := by
  unfold takeC; rw [h.sees b]; split
  · exact h.go 1
  · exact h
theorem Rl.must (h : Rl k j c c') (b : UInt8) : Rl k j (mustC c b) (mustC c' b) := by
  unfold mustC; rw [h.sees b]; split
  · exact h.take b
  · exact (h.take b).fail 2
theorem Rl.nameN (h : Rl k j c c') : Go.AM.nameN c' = Go.AM.nameN c := by
  have := h.s; unfold sfx at this
  unfold Go.AM.nameN; rw [h.e, this]
theorem Rl.name (h : Rl k j c c') : Rl k j (nameC c) (nameC c') := by
  unfold nameC; rw [h.nameN]; split
  · exact h.fail 2
  · exact h.go _
theorem span_s (c : Cur) : (spanI c.s c.at').toNat = if sfx c = [] then 0 else spanR (sfx c) := by
  split
  · rename_i h
    have : c.s.length ≤ c.at' := by have := congrArg List.length h; unfold sfx at this; rw [List.length_drop] at this; simp only [List.length_nil] at this; omega
    unfold spanI; rw [if_pos (by omega)]; rfl
  · rename_i h
    cases hd : sfx c with
    | nil => exact absurd hd h
    | cons x t => rw [span_sfx hd, hd]
theorem Rl.number (h : Rl k j c c') : Rl k j (numberC c) (numberC c') ∧ numberV c' = numberV c := by
  have hs : (spanI c'.s c'.at').toNat = (spanI c.s c.at').toNat := by rw [span_s, span_s, h.s]
  have hT : numT c' = numT c := by
    unfold numT; rw [hs]
    have := h.s; unfold sfx at this
    rw [this]
  refine ⟨?_, by unfold numberV; rw [hT, h.e]⟩
  unfold numberC
  rw [hT, hs]
  by_cases h0 : c.e = 0
  · rw [if_pos h0, if_pos (h.e.trans h0)]
    split
    · exact h.go _
    · exact h.fail _
  · rw [if_neg h0, if_neg (by rw [h.e]; exact h0)]
    exact h
theorem Rl.op (h : Rl k j c c') (h1 : c.ops ≠ 4096) (h2 : c'.ops ≠ 4096) : Rl k j (opC c) (opC c') ∧ opV c' = opV c := by
  have e1 : op1 c = c := op1_id fun h => h1 h.1
  have e2 : op1 c' = c' := op1_id fun h => h2 h.1
  have k2 : Rl k j (op2 c) (op2 c') := by unfold op2; rw [e1, e2]; exact h.take _
  have k3 : Rl k j (op3 c) (op3 c') := by
    unfold op3; rw [e1, e2, h.sees]; split
    · exact k2
    · exact k2.must _
  have k4 : Rl k j (op4 c) (op4 c') := k3.must _
  have k5 : Rl k j (op5 c) (op5 c') := k4.name
  have k6 : Rl k j (op6 c) (op6 c') := k5.must _
  obtain ⟨k7, hv⟩ := k6.number
  refine ⟨⟨k7.at', ?_, k7.e, k7.s⟩, ?_⟩
  · show (op7 c').ops + 1 = (op7 c).ops + 1 + j
    rw [show (op7 c').ops = (op7 c).ops + j from k7.ops]; omega
  · have hn := k4.nameN
    have hs := k4.s
    unfold sfx at hs
    unfold opV; rw [e1, e2, h.sees, hv, hn, hs]
theorem Rl.more (hj : j ≤ 1001) : ∀ {m : Nat} {c c' : Cur}, Rl k j c c' → okCu c → c.s.length ≤ 1000 → c.ops ≤ c.at' + 1 → ∀ {m' : Nat}, (sfx c).length ≤ m → (sfx c').length ≤ m' → Rl k j (moreC m c).2 (moreC m' c').2 ∧ (moreC m' c').1 = (moreC m c).1 := by
  intro m
  induction m with
  | zero =>
    intro c c' h ok hl ho m' hm hm'
    have h0 : sfx c = [] := List.length_eq_zero_iff.1 (by omega)
    have n1 : ¬ seesC c' 32 = true := by rw [h.sees, sees_s, h0]; simp
    rw [no_more n1]
    exact ⟨h, rfl⟩
  | succ m ih =>
    intro c c' h ok hl ho m' hm hm'
    by_cases hs : seesC c 32 = true
    · have hs' : seesC c' 32 = true := by rw [h.sees]; exact hs
      have hlt := (sees_lt hs).2.1
      have hlt' := (sees_lt hs').2.1
      have hsl := h.s
      unfold sfx at hm hm' hsl
      rw [List.length_drop] at hm hm'
      obtain ⟨i, rfl⟩ : ∃ i, m' = i + 1 := ⟨m' - 1, by omega⟩
      have h1 := h.take 32
      have ho1 : (takeC c 32).ops = c.ops := (take_s _ _).2.1
      have ha1 : (takeC c 32).at' = c.at' + 1 := by rw [take_yes hs]
      have hl1 : (takeC c 32).s = c.s := (take_s _ _).1
      have ho1' : (takeC c' 32).ops = c'.ops := (take_s _ _).2.1
      have ok1 := ok.1
      obtain ⟨h2, hv⟩ := h1.op (by omega) (by rw [ho1', h.ops]; omega)
      have hat := op_at (takeC c 32)
      have hat' := op_at (takeC c' 32)
      obtain ⟨q1, q2⟩ := op_cs (takeC c 32)
      obtain ⟨q1', q2'⟩ := op_cs (takeC c' 32)
      have hl1' : (takeC c' 32).s = c'.s := (take_s _ _).1
      have ha1' : (takeC c' 32).at' = c'.at' + 1 := by rw [take_yes hs']
      rw [moreC, moreC, if_pos hs, if_pos hs']
      obtain ⟨h3, h4⟩ := ih h2 (opC_ok (take_ok ok)) (by rw [q1, hl1]; exact hl) (by omega) (m' := i) (by unfold sfx; rw [List.length_drop, q1, hl1]; omega) (by unfold sfx; rw [List.length_drop, q1', hl1']; omega)
      exact ⟨h3, by rw [hv, h4]⟩
    · have hs' : ¬ seesC c' 32 = true := by rw [h.sees]; exact hs
      rw [no_more hs, no_more hs']
      exact ⟨h, rfl⟩
theorem Rl.line (hj : j ≤ 1001) (h : Rl k j c c') (ok : okL c) (hl : c.s.length ≤ 1000) : Rl k j (lineC c) (lineC c') ∧ lineV c' = lineV c := by
  unfold lineC lineV
  rw [h.sees]
  split
  · exact ⟨h.take _, rfl⟩
  · have ok1 := ok.1.1
    have ok2 := ok.2
    obtain ⟨h1, hv⟩ := h.op (by omega) (by rw [h.ops]; omega)
    obtain ⟨q1, q2⟩ := op_cs c
    obtain ⟨q1', q2'⟩ := op_cs c'
    have hat := op_at c
    obtain ⟨h2, h3⟩ := Rl.more hj h1 (opC_ok ok.1) (by rw [q1]; exact hl) (by omega) (m := c.s.length) (m' := c'.s.length) (by unfold sfx; rw [List.length_drop, q1]; omega) (by unfold sfx; rw [List.length_drop, q1']; omega)
    exact ⟨h2.must _, by rw [hv, h3]⟩
theorem Rl.text (hj : j ≤ 1001) : ∀ {m : Nat} {c c' : Cur}, Rl k j c c' → (c.e = 0 → okL c) → c.s.length ≤ 1000 → ∀ {m' : Nat}, (sfx c).length ≤ m → (sfx c').length ≤ m' → Rl k j (textC m c).2 (textC m' c').2 ∧ (textC m' c').1 = (textC m c).1 := by
  intro m
  induction m with
  | zero =>
    intro c c' h ok hl m' hm hm'
    have h0 : (sfx c').length = 0 := by rw [h.s]; omega
    unfold sfx at h0
    rw [List.length_drop] at h0
    have : textC m' c' = ([], c') := by
      cases m' with
      | zero => rfl
      | succ m' => rw [textC, if_neg (fun h => by have := h.2; omega)]
    rw [this]
    exact ⟨h, rfl⟩
  | succ m ih =>
    intro c c' h ok hl m' hm hm'
    have hsl := congrArg List.length h.s
    unfold sfx at hm hm' hsl
    rw [List.length_drop] at hm hm' hsl
    rw [List.length_drop] at hsl
    by_cases hc : c.e = 0 ∧ c.at' < c.s.length
    · have hc' : c'.e = 0 ∧ c'.at' < c'.s.length := ⟨h.e.trans hc.1, by omega⟩
      obtain ⟨i, rfl⟩ : ∃ i, m' = i + 1 := ⟨m' - 1, by omega⟩
      obtain ⟨h1, h2⟩ := Rl.line hj h (ok hc.1) hl
      rw [textC, textC, if_pos hc, if_pos hc']
      by_cases he : (lineC c).e = 0
      · have hlt := (line_ops (ok hc.1) he)
        have hsl2 := congrArg List.length h1.s
        unfold sfx at hsl2
        rw [List.length_drop, List.length_drop, line_s, line_s] at hsl2
        obtain ⟨h3, h4⟩ := ih h1 (fun _ => hlt.1) (by rw [line_s]; exact hl) (m' := i) (by unfold sfx; rw [List.length_drop, line_s]; omega) (by unfold sfx; rw [List.length_drop, line_s]; omega)
        exact ⟨h3, by rw [h2, h4]⟩
      · have he' : ¬ (lineC c').e = 0 := by rw [h1.e]; exact he
        rw [stuck_text he, stuck_text he']
        exact ⟨h1, by rw [h2]⟩
    · have hc' : ¬ (c'.e = 0 ∧ c'.at' < c'.s.length) := fun h' => hc ⟨h.e.symm.trans h'.1, by omega⟩
      have e1 : ∀ n, textC n c = ([], c) := fun n => by cases n with
        | zero => rfl
        | succ n => rw [textC, if_neg hc]
      have e2 : ∀ n, textC n c' = ([], c') := fun n => by cases n with
        | zero => rfl
        | succ n => rw [textC, if_neg hc']
      rw [e1, e2]
      exact ⟨h, rfl⟩
end
theorem line_gt {c : Cur} (he : (lineC c).e = 0) : c.at' < (lineC c).at' := by
  unfold lineC at he ⊢; split
  · rename_i hs; rw [take_yes hs]; exact Nat.lt_succ_self _
  · rename_i hs
    rw [if_neg hs] at he
    have h3 := must_e he
    rw [mustC, if_pos h3, take_yes h3]
    exact Nat.lt_succ_of_le (Nat.le_trans (op_at c) more_at)
theorem line_in {c : Cur} (he : (lineC c).e = 0) : (lineC c).at' ≤ c.s.length := by
  unfold lineC at he ⊢; split
  · rename_i hs; rw [take_yes hs]; exact (sees_lt hs).2.1
  · rename_i hs
    rw [if_neg hs] at he
    have h3 := must_e he
    rw [mustC, if_pos h3, take_yes h3]
    have := (sees_lt h3).2.1
    rw [more_s, (op_cs c).1] at this
    exact this
/-- The first text's lines, read ahead of the second. -/
theorem text_join : ∀ (m m' : Nat) (c c' : Cur) (w t : List UInt8), c.e = 0 → c'.e = 0 → c'.ops = c.ops → c'.at' = c.at' → sfx c = w → sfx c' = w ++ t → w.length ≤ m → (w ++ t).length ≤ m' → c'.at' ≤ c'.s.length → (textC m c).2.e = 0 →
    ∃ (i : Nat) (d : Cur), d.s = c'.s ∧ d.e = 0 ∧ d.ops = (textC m c).2.ops ∧ d.at' = c.at' + w.length ∧ sfx d = t ∧ t.length ≤ i ∧ (textC m' c').1 = (textC m c).1 ++ (textC i d).1 ∧ (textC m' c').2 = (textC i d).2 := by
  intro m
  induction m with
  | zero =>
    intro m' c c' w t he he' ho ha hs hs' hm hm' hle hf
    have hw : w = [] := List.length_eq_zero_iff.1 (by omega)
    subst hw
    exact ⟨m', c', rfl, he', ho, by rw [ha]; rfl, hs', by simpa using hm', by simp [textC], rfl⟩
  | succ m ih =>
    intro m' c c' w t he he' ho ha hs hs' hm hm' hle hf
    have hl := congrArg List.length hs
    have hl' := congrArg List.length hs'
    unfold sfx at hl hl'
    rw [List.length_drop] at hl hl'
    cases w with
    | nil =>
      have : textC (m + 1) c = ([], c) := by rw [textC, if_neg (fun h => by have := h.2; simp only [List.length_nil] at hl; omega)]
      rw [this]
      exact ⟨m', c', rfl, he', ho, by rw [ha]; rfl, hs', by simpa using hm', by simp, rfl⟩
    | cons x w0 =>
      have hc : c.e = 0 ∧ c.at' < c.s.length := ⟨he, by simp only [List.length_cons] at hl; omega⟩
      have hc' : c'.e = 0 ∧ c'.at' < c'.s.length := ⟨he', by simp only [List.cons_append, List.length_cons] at hl'; omega⟩
      obtain ⟨i, rfl⟩ : ∃ i, m' = i + 1 := ⟨m' - 1, by simp only [List.cons_append, List.length_cons] at hm'; omega⟩
      rw [textC, if_pos hc] at hf ⊢
      rw [textC, if_pos hc']
      have hle : (lineC c).e = 0 := by
        by_cases h0 : (lineC c).e = 0
        · exact h0
        · rw [stuck_text h0] at hf; exact hf
      have h10 : (10 : UInt8) ∈ x :: w0 := by
        by_cases h : (10 : UInt8) ∈ x :: w0
        · exact h
        · exact absurd hle (line_open (by rw [hs]; exact h))
      obtain ⟨u, w', hw, hu⟩ := List.eq_append_cons_of_mem h10
      rw [hw] at hs hs' hm hm' ⊢
      have hS : Sm 0 w' (w' ++ t) u c c' := ⟨ha, ho, he'.trans he.symm, hu, hs, by rw [hs']; simp⟩
      obtain ⟨h1, h2, h3, h4, h5⟩ := hS.line
      obtain ⟨h6, h7⟩ := h5 hle
      simp only [List.length_append, List.length_cons] at hm hm'
      have hat : (lineC c).at' = c.at' + (u.length + 1) := by
        have q1 := congrArg List.length h6
        have q2 := congrArg List.length hs
        unfold sfx at q1 q2
        rw [List.length_drop, line_s] at q1
        rw [List.length_drop, List.length_append, List.length_cons] at q2
        have hlt : c.at' < (lineC c).at' := line_gt hle
        by_cases hin : (lineC c).at' ≤ c.s.length
        · omega
        · exact absurd (line_in hle) hin
      have hat' : (lineC c').at' ≤ (lineC c').s.length := by
        rw [line_s]
        exact line_in (h3.trans hle)
      obtain ⟨i', d, k1, k2, k3, k4, k5, k6, k7, k8⟩ := ih i (lineC c) (lineC c') w' t hle (h3.trans hle) h2 h1 h6 h7 (by omega) (by rw [List.length_append]; omega) hat' hf
      refine ⟨i', d, k1.trans (line_s c'), k2, k3, ?_, k5, k6, ?_, k8⟩
      · rw [k4, hat, List.length_append, List.length_cons]; omega
      · rw [h4, k7]; rfl
end Go.AM

set_option linter.unusedVariables false
set_option linter.unusedSimpArgs false
namespace Go.AM
attribute [-simp] List.length_flatten List.map_flatten List.map_take List.map_map List.flatten_append
theorem read_join {s t : List UInt8} (hs : s.length ≤ 1000) (ht : t.length ≤ 1000) (he : (readT s).2.e = 0) : (readT (s ++ t)).2.e = (readT t).2.e ∧ (readT (s ++ t)).2.at' = s.length + (readT t).2.at' ∧ (readT (s ++ t)).1 = (readT s).1 ++ (readT t).1 := by
  obtain ⟨i, d, h1, h2, h3, h4, h5, h6, h7, h8⟩ := text_join s.length (s ++ t).length ⟨s, 0, 0, 0⟩ ⟨s ++ t, 0, 0, 0⟩ s t rfl rfl rfl rfl rfl rfl (Nat.le_refl _) (Nat.le_refl _) (Nat.zero_le _) he
  have hi := read_inv (s := s) (by omega)
  have h3 : d.ops = (readT s).2.ops := h3
  have hR : Rl s.length d.ops ⟨t, 0, 0, 0⟩ d := ⟨by rw [h4], (Nat.zero_add _).symm, h2, h5⟩
  have hat := hi.2.2.1.1
  rw [hi.2.2.2.2] at hat
  have hop := hi.2.2.2.1
  obtain ⟨k1, k2⟩ := Rl.text (by rw [h3]; omega) hR (fun _ => ⟨⟨Nat.zero_le _, by show t.length ≤ 1048576; omega⟩, Nat.le_refl _⟩) ht (m := t.length) (m' := i) (Nat.le_refl _) (by rw [h5]; exact h6)
  have e1 : readT (s ++ t) = textC (s ++ t).length ⟨s ++ t, 0, 0, 0⟩ := rfl
  have e2 : readT t = textC t.length ⟨t, 0, 0, 0⟩ := rfl
  have e3 : readT s = textC s.length ⟨s, 0, 0, 0⟩ := rfl
  refine ⟨?_, ?_, ?_⟩
  · rw [e1, h8, k1.e, e2]
  · rw [e1, h8, k1.at', e2, Nat.add_comm]
  · rw [e1, h7, k2, e2, e3]
theorem ce_pure {T : Nat → Option Fn} {f : Nat} {vs ds : List V} {fr : Bool} {P : Prop} {v : V} {L : List HE} (hc : PCon T f ds fr P v) (hP : P) (hd : Dps L 8 vs ds) (hf : fr = true → vs.all V.data = true) : CE T f vs L (fun u L' => u = v ∧ L' = L) := fun H hp =>
  ⟨v, H, L, hc.con hP vs H (hd H hp) hf, hp, rfl, rfl⟩
set_option maxHeartbeats 4000000 in
instance readJoins (s t : List UInt8) : PCon T0 n.law07_ReadJoins [.str s, .str t] true (okT s ∧ okT t) (.bool true) := ⟨fun ⟨hs, ht⟩ => by
  have hs : s.length ≤ 1048576 := hs
  have ht : t.length ≤ 1048576 := ht
  have c1 : PCon T0 n.read_Text [.str s] true True _ := ⟨fun _ => by have := (read_Text s).con hs; rw [readV_eq] at this; exact this⟩
  have c2 : PCon T0 n.read_Text [.str t] true True _ := ⟨fun _ => by have := (read_Text t).con ht; rw [readV_eq] at this; exact this⟩
  refine pc tabOk ?_
  repeat' first | (apply dr_fin; (focus exact xx)) | (apply dr_gt; (focus exact xx)) | (apply dr_gf; (focus exact xx); (focus first | exact .inl rfl | exact .inr rfl); focus (first | exact InD.no | (apply InD.so; (focus exact xx)))) | (apply dr_v; focus (apply DV.mk; (focus exact RF.mk rfl); (focus exact RF.mk rfl); (focus exact RF.mk rfl); (focus exact RF.mk rfl); (focus exact xx); focus (first | exact InD.no | (apply InD.so; (focus exact xx))))) | (apply dr_ve; focus (apply DVE.mk; (focus exact RF.mk rfl); (focus exact RF.mk rfl); (focus exact RF.mk rfl); (focus exact xx); focus (first | exact InD.no | (apply InD.so; (focus exact xx))))) | (apply dr_r; focus (apply DL.mk; (focus exact RF.mk rfl); (focus exact xx); (focus exact xx); focus (first | exact InD.no | (apply InD.so; (focus exact xx))))) | (apply dr_l; (focus exact RF.mk rfl); (focus exact RF.mk rfl); (focus exact RF.mk rfl); (focus exact RF.mk rfl); (focus exact RF.mk rfl)) | (apply dr_e; (focus exact RF.mk rfl); (focus exact RF.mk rfl); (focus exact RF.mk rfl); (focus exact RF.mk rfl)) | (apply rd_e; (focus exact xx); focus (repeat first | exact PO.nil | apply PO.zero | (apply PO.ld; (focus exact xx)))) | (apply rd_l; (focus exact xx)) | refine wh_seq ?_ | refine wh_skip ?_ | refine wh_block ?_ | refine wh_end ?_ | refine wh_exit ?_ | refine wh_ret ?_ | refine bk_norm ?_ | refine bk_exit ?_ | refine bk_ret ?_ | refine fr_exit ?_ | refine fr_ret ?_ | refine lp_exit ?_ | refine lp_ret ?_ | refine jn_exit ?_ | refine jn_ret ?_ | refine bk_other rfl ?_ | (apply wr; focus exact xx) | refine wh_reg ?_ | refine wh_ife ?_ | (apply re; focus exact xx) | (apply ra; (focus exact xx); (focus exact xx); intro _) | (apply r1; (focus exact xx); (focus exact xx); intro _) | (apply rl; (focus exact xx); (focus exact xx); intro _) | (apply rb; (focus exact xx); (focus exact xx); intro _) | (apply rsi; (focus exact xx); (focus exact xx); all_goals try infer_instance) | (apply rsz; (focus exact xx); (focus exact xx); all_goals try infer_instance) | (apply rt; (focus exact xx); (focus exact xx)) | (apply rso; (focus exact xx); (focus exact xx); all_goals try infer_instance) | (apply rmm; (focus exact xx); intro _) | (apply rsb; (focus exact xx); (focus exact xx)) | (apply ru; (focus exact xx); (focus exact xx)) | (apply rm; (focus exact xx); (focus exact xx); intro _) | (apply rk; (focus exact xx); (focus exact xx); intro _) | (apply rcf; (focus exact xx); (focus (apply ACF.mk; (focus exact xx); (focus exact inferInstance); (focus exact xx); (focus exact inferInstance); (focus exact xx); (focus exact rfl)))) | (apply rco; (focus exact xx); (focus (apply ACO.mk; (focus exact xx); (focus exact xx); (focus exact inferInstance); (focus exact xx); (focus exact xx))); intro _) | (apply rc; (focus exact xx); (focus exact xx)) | (apply rk'; (focus exact xx); (focus exact xx))
  ((first | apply wi | apply rf); (focus exact xx); (focus exact xx); all_goals intro _)
  · repeat' first | (apply dr_fin; (focus exact xx)) | (apply dr_gt; (focus exact xx)) | (apply dr_gf; (focus exact xx); (focus first | exact .inl rfl | exact .inr rfl); focus (first | exact InD.no | (apply InD.so; (focus exact xx)))) | (apply dr_v; focus (apply DV.mk; (focus exact RF.mk rfl); (focus exact RF.mk rfl); (focus exact RF.mk rfl); (focus exact RF.mk rfl); (focus exact xx); focus (first | exact InD.no | (apply InD.so; (focus exact xx))))) | (apply dr_ve; focus (apply DVE.mk; (focus exact RF.mk rfl); (focus exact RF.mk rfl); (focus exact RF.mk rfl); (focus exact xx); focus (first | exact InD.no | (apply InD.so; (focus exact xx))))) | (apply dr_r; focus (apply DL.mk; (focus exact RF.mk rfl); (focus exact xx); (focus exact xx); focus (first | exact InD.no | (apply InD.so; (focus exact xx))))) | (apply dr_l; (focus exact RF.mk rfl); (focus exact RF.mk rfl); (focus exact RF.mk rfl); (focus exact RF.mk rfl); (focus exact RF.mk rfl)) | (apply dr_e; (focus exact RF.mk rfl); (focus exact RF.mk rfl); (focus exact RF.mk rfl); (focus exact RF.mk rfl)) | (apply rd_e; (focus exact xx); focus (repeat first | exact PO.nil | apply PO.zero | (apply PO.ld; (focus exact xx)))) | (apply rd_l; (focus exact xx)) | refine wh_seq ?_ | refine wh_skip ?_ | refine wh_block ?_ | refine wh_end ?_ | refine wh_exit ?_ | refine wh_ret ?_ | refine bk_norm ?_ | refine bk_exit ?_ | refine bk_ret ?_ | refine fr_exit ?_ | refine fr_ret ?_ | refine lp_exit ?_ | refine lp_ret ?_ | refine jn_exit ?_ | refine jn_ret ?_ | refine bk_other rfl ?_ | (apply wr; focus exact xx) | (apply wi; (focus exact xx); (focus exact xx); all_goals intro _; all_goals try first | contradiction | (exfalso; omega) | exact absurd trivial ‹_›) | refine wh_reg ?_ | refine wh_ife ?_ | (apply re; focus exact xx) | (apply rf; (focus exact xx); (focus exact xx); all_goals intro _; all_goals try first | contradiction | (exfalso; omega) | exact absurd trivial ‹_›) | (apply ra; (focus exact xx); (focus exact xx); intro _) | (apply r1; (focus exact xx); (focus exact xx); intro _) | (apply rl; (focus exact xx); (focus exact xx); intro _) | (apply rb; (focus exact xx); (focus exact xx); intro _) | (apply rsi; (focus exact xx); (focus exact xx); all_goals try infer_instance) | (apply rsz; (focus exact xx); (focus exact xx); all_goals try infer_instance) | (apply rt; (focus exact xx); (focus exact xx)) | (apply rso; (focus exact xx); (focus exact xx); all_goals try infer_instance) | (apply rmm; (focus exact xx); intro _) | (apply rsb; (focus exact xx); (focus exact xx)) | (apply ru; (focus exact xx); (focus exact xx)) | (apply rm; (focus exact xx); (focus exact xx); intro _) | (apply rk; (focus exact xx); (focus exact xx); intro _) | (apply rcf; (focus exact xx); (focus (apply ACF.mk; (focus exact xx); (focus exact inferInstance); (focus exact xx); (focus exact inferInstance); (focus exact xx); (focus exact rfl)))) | (apply rco; (focus exact xx); (focus (apply ACO.mk; (focus exact xx); (focus exact xx); (focus exact inferInstance); (focus exact xx); (focus exact xx))); intro _) | (apply rc; (focus exact xx); (focus exact xx)) | (apply rk'; (focus exact xx); (focus exact xx))
    exact fz rfl
  rename_i hc
  have hs1 : s.length ≤ 1000 := by omega
  have ht1 : t.length ≤ 1000 := by omega
  have hst : (s ++ t).length ≤ 1048576 := by rw [List.length_append]; omega
  have hv : rdH (s ++ t) = rdH (s ++ t) := rfl
  have c3 : PCon T0 n.read_Text [.str (s ++ t)] true True (.tup [eH (rdH (s ++ t)), .int .i64 (rdI (s ++ t) : Nat), .int .i64 (rdE (s ++ t))]) := ⟨fun _ => by have := (read_Text (s ++ t)).con hst; rw [readV_eq] at this; exact this⟩
  have hbi : rdI t ≤ t.length := by
    unfold rdI; split
    · exact Nat.zero_le _
    · have := (read_inv ht).2.2.1.1
      rw [(read_inv ht).2.2.2.2] at this; exact this
  by_cases he : ¬ rdE s = 0
  · repeat' first | (apply dr_fin; (focus exact xx)) | (apply dr_gt; (focus exact xx)) | (apply dr_gf; (focus exact xx); (focus first | exact .inl rfl | exact .inr rfl); focus (first | exact InD.no | (apply InD.so; (focus exact xx)))) | (apply dr_v; focus (apply DV.mk; (focus exact RF.mk rfl); (focus exact RF.mk rfl); (focus exact RF.mk rfl); (focus exact RF.mk rfl); (focus exact xx); focus (first | exact InD.no | (apply InD.so; (focus exact xx))))) | (apply dr_ve; focus (apply DVE.mk; (focus exact RF.mk rfl); (focus exact RF.mk rfl); (focus exact RF.mk rfl); (focus exact xx); focus (first | exact InD.no | (apply InD.so; (focus exact xx))))) | (apply dr_r; focus (apply DL.mk; (focus exact RF.mk rfl); (focus exact xx); (focus exact xx); focus (first | exact InD.no | (apply InD.so; (focus exact xx))))) | (apply dr_l; (focus exact RF.mk rfl); (focus exact RF.mk rfl); (focus exact RF.mk rfl); (focus exact RF.mk rfl); (focus exact RF.mk rfl)) | (apply dr_e; (focus exact RF.mk rfl); (focus exact RF.mk rfl); (focus exact RF.mk rfl); (focus exact RF.mk rfl)) | (apply rd_e; (focus exact xx); focus (repeat first | exact PO.nil | apply PO.zero | (apply PO.ld; (focus exact xx)))) | (apply rd_l; (focus exact xx)) | refine wh_seq ?_ | refine wh_skip ?_ | refine wh_block ?_ | refine wh_end ?_ | refine wh_exit ?_ | refine wh_ret ?_ | refine bk_norm ?_ | refine bk_exit ?_ | refine bk_ret ?_ | refine fr_exit ?_ | refine fr_ret ?_ | refine lp_exit ?_ | refine lp_ret ?_ | refine jn_exit ?_ | refine jn_ret ?_ | refine bk_other rfl ?_ | (apply wr; focus exact xx) | (apply wi; (focus exact xx); (focus exact xx); all_goals intro _; all_goals try first | contradiction | (exfalso; omega) | exact absurd trivial ‹_›) | refine wh_reg ?_ | refine wh_ife ?_ | (apply re; focus exact xx) | (apply rf; (focus exact xx); (focus exact xx); all_goals intro _; all_goals try first | contradiction | (exfalso; omega) | exact absurd trivial ‹_›) | (apply ra; (focus exact xx); (focus exact xx); intro _) | (apply r1; (focus exact xx); (focus exact xx); intro _) | (apply rl; (focus exact xx); (focus exact xx); intro _) | (apply rb; (focus exact xx); (focus exact xx); intro _) | (apply rsi; (focus exact xx); (focus exact xx); all_goals try infer_instance) | (apply rsz; (focus exact xx); (focus exact xx); all_goals try infer_instance) | (apply rt; (focus exact xx); (focus exact xx)) | (apply rso; (focus exact xx); (focus exact xx); all_goals try infer_instance) | (apply rmm; (focus exact xx); intro _) | (apply rsb; (focus exact xx); (focus exact xx)) | (apply ru; (focus exact xx); (focus exact xx)) | (apply rm; (focus exact xx); (focus exact xx); intro _) | (apply rk; (focus exact xx); (focus exact xx); intro _) | (apply rcf; (focus exact xx); (focus (apply ACF.mk; (focus exact xx); (focus exact inferInstance); (focus exact xx); (focus exact inferInstance); (focus exact xx); (focus exact rfl)))) | (apply rco; (focus exact xx); (focus (apply ACO.mk; (focus exact xx); (focus exact xx); (focus exact inferInstance); (focus exact xx); (focus exact xx))); intro _) | (apply rc; (focus exact xx); (focus exact xx)) | (apply rk'; (focus exact xx); (focus exact xx))
    exact fz rfl
  have he : rdE s = 0 := Decidable.not_not.1 he
  have he' : (readT s).2.e = 0 := he
  obtain ⟨j1, j2, j3⟩ := read_join hs1 ht1 he'
  have hE : rdE (s ++ t) = rdE t := j1
  by_cases hf : ¬ rdE t = 0
  · have hI : rdI (s ++ t) = s.length + rdI t := by
      have hf' : ¬ (readT t).2.e = 0 := hf
      unfold rdI; rw [if_neg hf', if_neg (by rw [j1]; exact hf'), j2]
    rw [hE, hI] at c3
    repeat' first | (apply dr_fin; (focus exact xx)) | (apply dr_gt; (focus exact xx)) | (apply dr_gf; (focus exact xx); (focus first | exact .inl rfl | exact .inr rfl); focus (first | exact InD.no | (apply InD.so; (focus exact xx)))) | (apply dr_v; focus (apply DV.mk; (focus exact RF.mk rfl); (focus exact RF.mk rfl); (focus exact RF.mk rfl); (focus exact RF.mk rfl); (focus exact xx); focus (first | exact InD.no | (apply InD.so; (focus exact xx))))) | (apply dr_ve; focus (apply DVE.mk; (focus exact RF.mk rfl); (focus exact RF.mk rfl); (focus exact RF.mk rfl); (focus exact xx); focus (first | exact InD.no | (apply InD.so; (focus exact xx))))) | (apply dr_r; focus (apply DL.mk; (focus exact RF.mk rfl); (focus exact xx); (focus exact xx); focus (first | exact InD.no | (apply InD.so; (focus exact xx))))) | (apply dr_l; (focus exact RF.mk rfl); (focus exact RF.mk rfl); (focus exact RF.mk rfl); (focus exact RF.mk rfl); (focus exact RF.mk rfl)) | (apply dr_e; (focus exact RF.mk rfl); (focus exact RF.mk rfl); (focus exact RF.mk rfl); (focus exact RF.mk rfl)) | (apply rd_e; (focus exact xx); focus (repeat first | exact PO.nil | apply PO.zero | (apply PO.ld; (focus exact xx)))) | (apply rd_l; (focus exact xx)) | refine wh_seq ?_ | refine wh_skip ?_ | refine wh_block ?_ | refine wh_end ?_ | refine wh_exit ?_ | refine wh_ret ?_ | refine bk_norm ?_ | refine bk_exit ?_ | refine bk_ret ?_ | refine fr_exit ?_ | refine fr_ret ?_ | refine lp_exit ?_ | refine lp_ret ?_ | refine jn_exit ?_ | refine jn_ret ?_ | refine bk_other rfl ?_ | (apply wr; focus exact xx) | (apply wi; (focus exact xx); (focus exact xx); all_goals intro _; all_goals try first | contradiction | (exfalso; omega) | exact absurd trivial ‹_›) | refine wh_reg ?_ | refine wh_ife ?_ | (apply re; focus exact xx) | (apply rf; (focus exact xx); (focus exact xx); all_goals intro _; all_goals try first | contradiction | (exfalso; omega) | exact absurd trivial ‹_›) | (apply ra; (focus exact xx); (focus exact xx); intro _) | (apply r1; (focus exact xx); (focus exact xx); intro _) | (apply rl; (focus exact xx); (focus exact xx); intro _) | (apply rb; (focus exact xx); (focus exact xx); intro _) | (apply rsi; (focus exact xx); (focus exact xx); all_goals try infer_instance) | (apply rsz; (focus exact xx); (focus exact xx); all_goals try infer_instance) | (apply rt; (focus exact xx); (focus exact xx)) | (apply rso; (focus exact xx); (focus exact xx); all_goals try infer_instance) | (apply rmm; (focus exact xx); intro _) | (apply rsb; (focus exact xx); (focus exact xx)) | (apply ru; (focus exact xx); (focus exact xx)) | (apply rm; (focus exact xx); (focus exact xx); intro _) | (apply rk; (focus exact xx); (focus exact xx); intro _) | (apply rcf; (focus exact xx); (focus (apply ACF.mk; (focus exact xx); (focus exact inferInstance); (focus exact xx); (focus exact inferInstance); (focus exact xx); (focus exact rfl)))) | (apply rco; (focus exact xx); (focus (apply ACO.mk; (focus exact xx); (focus exact xx); (focus exact inferInstance); (focus exact xx); (focus exact xx))); intro _) | (apply rc; (focus exact xx); (focus exact xx)) | (apply rk'; (focus exact xx); (focus exact xx))
    refine fz ?_
    simp
  have hf : rdE t = 0 := Decidable.not_not.1 hf
  have hf' : (readT t).2.e = 0 := hf
  have hH : rdH (s ++ t) = rdH s ++ rdH t := by
    unfold rdH; rw [if_pos hf', if_pos he', if_pos (by rw [j1]; exact hf'), j3]
  rw [hE, hf, hH] at c3
  rw [hf] at c2
  rw [he] at c1
  have hhs : hb (rdH s) := rd_hb (by omega)
  have hht : hb (rdH t) := rd_hb (by omega)
  have hhc : hb (rdH s ++ rdH t) := by rw [← hH]; exact rd_hb (by rw [List.length_append]; omega)
  obtain ⟨hs2, hs3⟩ := hhs
  obtain ⟨ht2, ht3⟩ := hht
  repeat' first | (apply dr_fin; (focus exact xx)) | (apply dr_gt; (focus exact xx)) | (apply dr_gf; (focus exact xx); (focus first | exact .inl rfl | exact .inr rfl); focus (first | exact InD.no | (apply InD.so; (focus exact xx)))) | (apply dr_v; focus (apply DV.mk; (focus exact RF.mk rfl); (focus exact RF.mk rfl); (focus exact RF.mk rfl); (focus exact RF.mk rfl); (focus exact xx); focus (first | exact InD.no | (apply InD.so; (focus exact xx))))) | (apply dr_ve; focus (apply DVE.mk; (focus exact RF.mk rfl); (focus exact RF.mk rfl); (focus exact RF.mk rfl); (focus exact xx); focus (first | exact InD.no | (apply InD.so; (focus exact xx))))) | (apply dr_r; focus (apply DL.mk; (focus exact RF.mk rfl); (focus exact xx); (focus exact xx); focus (first | exact InD.no | (apply InD.so; (focus exact xx))))) | (apply dr_l; (focus exact RF.mk rfl); (focus exact RF.mk rfl); (focus exact RF.mk rfl); (focus exact RF.mk rfl); (focus exact RF.mk rfl)) | (apply dr_e; (focus exact RF.mk rfl); (focus exact RF.mk rfl); (focus exact RF.mk rfl); (focus exact RF.mk rfl)) | (apply rd_e; (focus exact xx); focus (repeat first | exact PO.nil | apply PO.zero | (apply PO.ld; (focus exact xx)))) | (apply rd_l; (focus exact xx)) | refine wh_seq ?_ | refine wh_skip ?_ | refine wh_block ?_ | refine wh_end ?_ | refine wh_exit ?_ | refine wh_ret ?_ | refine bk_norm ?_ | refine bk_exit ?_ | refine bk_ret ?_ | refine fr_exit ?_ | refine fr_ret ?_ | refine lp_exit ?_ | refine lp_ret ?_ | refine jn_exit ?_ | refine jn_ret ?_ | refine bk_other rfl ?_ | (apply wr; focus exact xx) | (apply wi; (focus exact xx); (focus exact xx); all_goals intro _; all_goals try first | contradiction | (exfalso; omega) | exact absurd trivial ‹_›) | refine wh_reg ?_ | refine wh_ife ?_ | (apply re; focus exact xx) | (apply rf; (focus exact xx); (focus exact xx); all_goals intro _; all_goals try first | contradiction | (exfalso; omega) | exact absurd trivial ‹_›) | (apply ra; (focus exact xx); (focus exact xx); intro _) | (apply r1; (focus exact xx); (focus exact xx); intro _) | (apply rl; (focus exact xx); (focus exact xx); intro _) | (apply rb; (focus exact xx); (focus exact xx); intro _) | (apply rsi; (focus exact xx); (focus exact xx); all_goals try infer_instance) | (apply rsz; (focus exact xx); (focus exact xx); all_goals try infer_instance) | (apply rt; (focus exact xx); (focus exact xx)) | (apply rso; (focus exact xx); (focus exact xx); all_goals try infer_instance) | (apply rmm; (focus exact xx); intro _) | (apply rsb; (focus exact xx); (focus exact xx)) | (apply ru; (focus exact xx); (focus exact xx)) | (apply rm; (focus exact xx); (focus exact xx); intro _) | (apply rk; (focus exact xx); (focus exact xx); intro _) | (apply rcf; (focus exact xx); (focus (apply ACF.mk; (focus exact xx); (focus exact inferInstance); (focus exact xx); (focus exact inferInstance); (focus exact xx); (focus exact rfl)))) | (apply rco; (focus exact xx); (focus (apply ACO.mk; (focus exact xx); (focus exact xx); (focus exact inferInstance); (focus exact xx); (focus exact xx))); intro _) | (apply rc; (focus exact xx); (focus exact xx)) | (apply rk'; (focus exact xx); (focus exact xx))
  clear c1 c2 c3
  refine wh_raw ?_
  repeat' first | (apply dr_fin; (focus exact xx)) | (apply dr_gt; (focus exact xx)) | (apply dr_gf; (focus exact xx); (focus first | exact .inl rfl | exact .inr rfl); focus (first | exact InD.no | (apply InD.so; (focus exact xx)))) | (apply dr_v; focus (apply DV.mk; (focus exact RF.mk rfl); (focus exact RF.mk rfl); (focus exact RF.mk rfl); (focus exact RF.mk rfl); (focus exact xx); focus (first | exact InD.no | (apply InD.so; (focus exact xx))))) | (apply dr_ve; focus (apply DVE.mk; (focus exact RF.mk rfl); (focus exact RF.mk rfl); (focus exact RF.mk rfl); (focus exact xx); focus (first | exact InD.no | (apply InD.so; (focus exact xx))))) | (apply dr_r; focus (apply DL.mk; (focus exact RF.mk rfl); (focus exact xx); (focus exact xx); focus (first | exact InD.no | (apply InD.so; (focus exact xx))))) | (apply dr_l; (focus exact RF.mk rfl); (focus exact RF.mk rfl); (focus exact RF.mk rfl); (focus exact RF.mk rfl); (focus exact RF.mk rfl)) | (apply dr_e; (focus exact RF.mk rfl); (focus exact RF.mk rfl); (focus exact RF.mk rfl); (focus exact RF.mk rfl)) | (apply rd_e; (focus exact xx); focus (repeat first | exact PO.nil | apply PO.zero | (apply PO.ld; (focus exact xx)))) | (apply rd_l; (focus exact xx)) | refine wh_seq ?_ | refine wh_skip ?_ | refine wh_block ?_ | refine wh_end ?_ | refine wh_exit ?_ | refine wh_ret ?_ | refine bk_norm ?_ | refine bk_exit ?_ | refine bk_ret ?_ | refine fr_exit ?_ | refine fr_ret ?_ | refine lp_exit ?_ | refine lp_ret ?_ | refine jn_exit ?_ | refine jn_ret ?_ | refine bk_other rfl ?_ | (apply wr; focus exact xx) | (apply wi; (focus exact xx); (focus exact xx); all_goals intro _; all_goals try first | contradiction | (exfalso; omega) | exact absurd trivial ‹_›) | refine wh_reg ?_ | refine wh_ife ?_ | (apply re; focus exact xx) | (apply rf; (focus exact xx); (focus exact xx); all_goals intro _; all_goals try first | contradiction | (exfalso; omega) | exact absurd trivial ‹_›) | (apply ra; (focus exact xx); (focus exact xx); intro _) | (apply r1; (focus exact xx); (focus exact xx); intro _) | (apply rl; (focus exact xx); (focus exact xx); intro _) | (apply rb; (focus exact xx); (focus exact xx); intro _) | (apply rsi; (focus exact xx); (focus exact xx); all_goals try infer_instance) | (apply rsz; (focus exact xx); (focus exact xx); all_goals try infer_instance) | (apply rt; (focus exact xx); (focus exact xx)) | (apply rso; (focus exact xx); (focus exact xx); all_goals try infer_instance) | (apply rmm; (focus exact xx); intro _) | (apply rsb; (focus exact xx); (focus exact xx)) | (apply ru; (focus exact xx); (focus exact xx)) | (apply rm; (focus exact xx); (focus exact xx); intro _) | (apply rk; (focus exact xx); (focus exact xx); intro _) | (apply rcf; (focus exact xx); (focus (apply ACF.mk; (focus exact xx); (focus exact inferInstance); (focus exact xx); (focus exact inferInstance); (focus exact xx); (focus exact rfl)))) | (apply rco; (focus exact xx); (focus (apply ACO.mk; (focus exact xx); (focus exact xx); (focus exact inferInstance); (focus exact xx); (focus exact xx))); intro _) | (apply rc; (focus exact xx); (focus exact xx)) | (apply rk'; (focus exact xx); (focus exact xx))
  rw [List.replicate_zero, List.nil_append, ← List.map_append]
  refine rc (by exact xx) (AC.mk (by exact xx) (ce_pure (ref06_Same (rdH s ++ rdH t) (rdH s ++ rdH t)) hhc (by exact xx) (fun h => by cases h))) ?_
  rintro _ _ ⟨rfl, rfl⟩
  repeat' first | (apply dr_fin; (focus exact xx)) | (apply dr_gt; (focus exact xx)) | (apply dr_gf; (focus exact xx); (focus first | exact .inl rfl | exact .inr rfl); focus (first | exact InD.no | (apply InD.so; (focus exact xx)))) | (apply dr_v; focus (apply DV.mk; (focus exact RF.mk rfl); (focus exact RF.mk rfl); (focus exact RF.mk rfl); (focus exact RF.mk rfl); (focus exact xx); focus (first | exact InD.no | (apply InD.so; (focus exact xx))))) | (apply dr_ve; focus (apply DVE.mk; (focus exact RF.mk rfl); (focus exact RF.mk rfl); (focus exact RF.mk rfl); (focus exact xx); focus (first | exact InD.no | (apply InD.so; (focus exact xx))))) | (apply dr_r; focus (apply DL.mk; (focus exact RF.mk rfl); (focus exact xx); (focus exact xx); focus (first | exact InD.no | (apply InD.so; (focus exact xx))))) | (apply dr_l; (focus exact RF.mk rfl); (focus exact RF.mk rfl); (focus exact RF.mk rfl); (focus exact RF.mk rfl); (focus exact RF.mk rfl)) | (apply dr_e; (focus exact RF.mk rfl); (focus exact RF.mk rfl); (focus exact RF.mk rfl); (focus exact RF.mk rfl)) | (apply rd_e; (focus exact xx); focus (repeat first | exact PO.nil | apply PO.zero | (apply PO.ld; (focus exact xx)))) | (apply rd_l; (focus exact xx)) | refine wh_seq ?_ | refine wh_skip ?_ | refine wh_block ?_ | refine wh_end ?_ | refine wh_exit ?_ | refine wh_ret ?_ | refine bk_norm ?_ | refine bk_exit ?_ | refine bk_ret ?_ | refine fr_exit ?_ | refine fr_ret ?_ | refine lp_exit ?_ | refine lp_ret ?_ | refine jn_exit ?_ | refine jn_ret ?_ | refine bk_other rfl ?_ | (apply wr; focus exact xx) | (apply wi; (focus exact xx); (focus exact xx); all_goals intro _; all_goals try first | contradiction | (exfalso; omega) | exact absurd trivial ‹_›) | refine wh_reg ?_ | refine wh_ife ?_ | (apply re; focus exact xx) | (apply rf; (focus exact xx); (focus exact xx); all_goals intro _; all_goals try first | contradiction | (exfalso; omega) | exact absurd trivial ‹_›) | (apply ra; (focus exact xx); (focus exact xx); intro _) | (apply r1; (focus exact xx); (focus exact xx); intro _) | (apply rl; (focus exact xx); (focus exact xx); intro _) | (apply rb; (focus exact xx); (focus exact xx); intro _) | (apply rsi; (focus exact xx); (focus exact xx); all_goals try infer_instance) | (apply rsz; (focus exact xx); (focus exact xx); all_goals try infer_instance) | (apply rt; (focus exact xx); (focus exact xx)) | (apply rso; (focus exact xx); (focus exact xx); all_goals try infer_instance) | (apply rmm; (focus exact xx); intro _) | (apply rsb; (focus exact xx); (focus exact xx)) | (apply ru; (focus exact xx); (focus exact xx)) | (apply rm; (focus exact xx); (focus exact xx); intro _) | (apply rk; (focus exact xx); (focus exact xx); intro _) | (apply rcf; (focus exact xx); (focus (apply ACF.mk; (focus exact xx); (focus exact inferInstance); (focus exact xx); (focus exact inferInstance); (focus exact xx); (focus exact rfl)))) | (apply rco; (focus exact xx); (focus (apply ACO.mk; (focus exact xx); (focus exact xx); (focus exact inferInstance); (focus exact xx); (focus exact xx))); intro _) | (apply rc; (focus exact xx); (focus exact xx)) | (apply rk'; (focus exact xx); (focus exact xx))
  refine fz ?_
  simp
  rfl⟩
end Go.AM

set_option linter.unusedVariables false
set_option linter.unusedSimpArgs false
namespace Go.AM
open Go.RowKit Go.Deep Go.Proofs
theorem readJoins_ok (s t : List UInt8) (hb : (fun s : List UInt8 => s.length + 1) s + (fun s : List UInt8 => s.length + 1) t ≤ 1048576) : okT s ∧ okT t := by
  simp only at hb
  exact ⟨by show s.length ≤ 1048576; omega, by show t.length ≤ 1048576; omega⟩
end Go.AM

