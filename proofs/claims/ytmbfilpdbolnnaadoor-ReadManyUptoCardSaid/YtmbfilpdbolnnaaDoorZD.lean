/- Part ZD of the proof. -/
import Derived.Test.YtmbfilpdbolnnaaDoorZC
set_option linter.unusedVariables false
set_option linter.unusedSimpArgs false
namespace Go.AM
attribute [-simp] List.length_flatten List.map_flatten List.map_take List.map_map List.flatten_append
/-! Two cursors that see the same, up to the line's end. -/
def sfx (c : Cur) : List UInt8 := c.s.drop c.at'
theorem drop_cons {s : List UInt8} {a : Nat} {x : UInt8} {t : List UInt8} (h : s.drop a = x :: t) : a < s.length ∧ nth s a = x ∧ s.drop (a + 1) = t := by
  have hl : a < s.length := by
    by_cases h' : a < s.length
    · exact h'
    · rw [List.drop_of_length_le (by omega)] at h; cases h
  rw [List.drop_eq_getElem_cons hl, ← nth_eq hl] at h
  injection h with h1 h2
  exact ⟨hl, h1, h2⟩
theorem sees_sfx {c : Cur} {b x : UInt8} {t : List UInt8} (h : sfx c = x :: t) : seesC c b = (decide (c.e = 0) && decide (x = b)) := by
  obtain ⟨h1, h2, h3⟩ := drop_cons h
  rw [seesC, h2, decide_eq_true h1, Bool.true_and]
/-- k: how much further the second one stands; r, r': what stands behind the line. -/
structure Sm (k : Nat) (r r' : List UInt8) (u : List UInt8) (c c' : Cur) : Prop where
  at' : c'.at' = c.at' + k
  ops : c'.ops = c.ops
  e : c'.e = c.e
  no : (10 : UInt8) ∉ u
  s : sfx c = u ++ 10 :: r
  s' : sfx c' = u ++ 10 :: r'
section
variable {k : Nat} {r r' u : List UInt8} {c c' : Cur}
theorem Sm.sees (h : Sm k r r' u c c') (b : UInt8) : seesC c' b = seesC c b := by
  cases u with
  | nil => rw [sees_sfx (t := r) h.s, sees_sfx (t := r') h.s', h.e]
  | cons x u => rw [sees_sfx (t := u ++ 10 :: r) h.s, sees_sfx (t := u ++ 10 :: r') h.s', h.e]
theorem Sm.fail (h : Sm k r r' u c c') (e : Int) : Sm k r r' u (failC c e) (failC c' e) := by
  unfold failC; rw [h.e]; split
  · exact ⟨h.at', h.ops, rfl, h.no, h.s, h.s'⟩
  · exact h
/-- n signs are gone over. -/
theorem Sm.go (h : Sm k r r' u c c') {n : Nat} (hn : n ≤ u.length) : Sm k r r' (u.drop n) { c with at' := c.at' + n } { c' with at' := c'.at' + n } := by
  refine ⟨?_, h.ops, h.e, fun h' => h.no (List.mem_of_mem_drop h'), ?_, ?_⟩
  · show c'.at' + n = c.at' + n + k
    rw [h.at']; omega
  · show c.s.drop (c.at' + n) = _
    have := h.s; unfold sfx at this
    rw [← List.drop_drop, this, List.drop_append_of_le_length hn]
  · show c'.s.drop (c'.at' + n) = _
    have := h.s'; unfold sfx at this
    rw [← List.drop_drop, this, List.drop_append_of_le_length hn]
theorem Sm.take (h : Sm k r r' u c c') {b : UInt8} (hb : b ≠ 10) : ∃ u', Sm k r r' u' (takeC c b) (takeC c' b) := by
  unfold takeC; rw [h.sees b]; split
  · rename_i hs
    refine ⟨u.drop 1, h.go ?_⟩
    cases u with
    | nil =>
      rw [sees_sfx (t := r) h.s] at hs
      simp only [Bool.and_eq_true, decide_eq_true_eq] at hs
      exact absurd hs.2.symm hb
    | cons x u => simp
  · exact ⟨u, h⟩
theorem Sm.must (h : Sm k r r' u c c') {b : UInt8} (hb : b ≠ 10) : ∃ u', Sm k r r' u' (mustC c b) (mustC c' b) := by
  obtain ⟨u', h'⟩ := h.take hb
  unfold mustC; rw [h.sees b]; split
  · exact ⟨u', h'⟩
  · exact ⟨u', h'.fail 2⟩
theorem tw_app {p : UInt8 → Bool} (hp : p 10 = false) (u r : List UInt8) : (u ++ 10 :: r).takeWhile p = u.takeWhile p := by
  induction u with
  | nil => simp [hp]
  | cons a u ih =>
    simp only [List.cons_append, List.takeWhile_cons, ih]
theorem tw_le {p : UInt8 → Bool} (u : List UInt8) : (u.takeWhile p).length ≤ u.length := by
  have := tw_dw (p := p) u; omega
theorem Sm.nameN (h : Sm k r r' u c c') : Go.AM.nameN c' = Go.AM.nameN c ∧ Go.AM.nameN c ≤ u.length := by
  have h1 := h.s; have h2 := h.s'; unfold sfx at h1 h2
  unfold Go.AM.nameN
  rw [h1, h2, tw_app (by decide), tw_app (by decide), h.e]
  refine ⟨rfl, ?_⟩
  split
  · have := tw_le (p := low) u; omega
  · omega
theorem Sm.name (h : Sm k r r' u c c') : (∃ u', Sm k r r' u' (nameC c) (nameC c')) ∧ (c'.s.drop c'.at').take (Go.AM.nameN c') = (c.s.drop c.at').take (Go.AM.nameN c) := by
  obtain ⟨h1, h2⟩ := h.nameN
  constructor
  · unfold nameC; rw [h1]; split
    · exact ⟨u, h.fail 2⟩
    · exact ⟨_, h.go h2⟩
  · have h3 := h.s; have h4 := h.s'; unfold sfx at h3 h4
    rw [h1, h3, h4, List.take_append_of_le_length h2, List.take_append_of_le_length h2]
theorem sgn_app (u r r' : List UInt8) : sgn (u ++ 10 :: r) = sgn (u ++ 10 :: r') ∧ sgn (u ++ 10 :: r) ≤ u.length := by
  cases u with
  | nil => exact ⟨rfl, by simp [sgn]⟩
  | cons x u =>
    constructor
    · simp only [sgn, List.cons_append, List.isPrefixOf]
    · simp only [sgn, List.cons_append, List.isPrefixOf]
      split <;> simp
theorem spanR_app (u r r' : List UInt8) : spanR (u ++ 10 :: r) = spanR (u ++ 10 :: r') ∧ spanR (u ++ 10 :: r) ≤ u.length := by
  obtain ⟨h1, h2⟩ := sgn_app u r r'
  unfold spanR
  rw [← h1, List.drop_append_of_le_length h2, List.drop_append_of_le_length h2, tw_app (by decide), tw_app (by decide)]
  refine ⟨rfl, ?_⟩
  have := tw_le (p := dig) (u.drop (sgn (u ++ 10 :: r)))
  rw [List.length_drop] at this; omega
theorem span_sfx {c : Cur} {x : UInt8} {t : List UInt8} (h : sfx c = x :: t) : (spanI c.s c.at').toNat = spanR (sfx c) := by
  obtain ⟨h1, h2, h3⟩ := drop_cons h
  unfold spanI sfx
  rw [if_neg (by omega)]; rfl
theorem ne_cons (u r : List UInt8) : ∃ x t, u ++ 10 :: r = x :: t := by
  cases u with
  | nil => exact ⟨_, _, rfl⟩
  | cons x u => exact ⟨_, _, rfl⟩
theorem Sm.number (h : Sm k r r' u c c') : (∃ u', Sm k r r' u' (numberC c) (numberC c')) ∧ numberV c' = numberV c := by
  have hs : (spanI c.s c.at').toNat = spanR (u ++ 10 :: r) := by
    obtain ⟨x, t, hx⟩ := ne_cons u r
    rw [span_sfx (h.s.trans hx), h.s]
  have hs' : (spanI c'.s c'.at').toNat = spanR (u ++ 10 :: r') := by
    obtain ⟨x, t, hx⟩ := ne_cons u r'
    rw [span_sfx (h.s'.trans hx), h.s']
  obtain ⟨h1, h2⟩ := spanR_app u r r'
  have hT : numT c' = numT c := by
    have h3 := h.s; have h4 := h.s'; unfold sfx at h3 h4
    unfold numT
    rw [hs, hs', h3, h4, ← h1, List.take_append_of_le_length h2, List.take_append_of_le_length h2]
  constructor
  · unfold numberC
    rw [hT, hs, hs', ← h1]
    by_cases h0 : c.e = 0
    · rw [if_pos h0, if_pos (h.e.trans h0)]
      split
      · exact ⟨_, h.go h2⟩
      · exact ⟨u, h.fail _⟩
    · rw [if_neg h0, if_neg (by rw [h.e]; exact h0)]
      exact ⟨u, h⟩
  · unfold numberV; rw [hT, h.e]
theorem Sm.op (h : Sm k r r' u c c') : (∃ u', Sm k r r' u' (opC c) (opC c')) ∧ opV c' = opV c := by
  obtain ⟨u1, h1⟩ : ∃ u', Sm k r r' u' (op1 c) (op1 c') := by
    unfold op1; rw [h.ops, h.sees, h.sees]; split
    · exact ⟨u, h.fail 3⟩
    · exact ⟨u, h⟩
  obtain ⟨u2, h2⟩ : ∃ u', Sm k r r' u' (op2 c) (op2 c') := h1.take (by decide)
  obtain ⟨u3, h3⟩ : ∃ u', Sm k r r' u' (op3 c) (op3 c') := by
    unfold op3; rw [h1.sees]; split
    · exact ⟨u2, h2⟩
    · exact h2.must (by decide)
  obtain ⟨u4, h4⟩ : ∃ u', Sm k r r' u' (op4 c) (op4 c') := h3.must (by decide)
  obtain ⟨⟨u5, h5⟩, hn⟩ := h4.name
  obtain ⟨u6, h6⟩ : ∃ u', Sm k r r' u' (op6 c) (op6 c') := Sm.must (c := op5 c) (c' := op5 c') h5 (by decide)
  obtain ⟨⟨u7, h7⟩, hv⟩ := h6.number
  refine ⟨⟨u7, h7.at', ?_, h7.e, h7.no, h7.s, h7.s'⟩, ?_⟩
  · show (op7 c').ops + 1 = (op7 c).ops + 1
    rw [show (op7 c').ops = (op7 c).ops from h7.ops]
  · unfold opV; rw [h1.sees, hn, hv]
theorem Sm.more : ∀ {m : Nat} {u : List UInt8} {c c' : Cur}, Sm k r r' u c c' → ∀ {m' : Nat}, (sfx c).length ≤ m → (sfx c').length ≤ m' → (∃ u', Sm k r r' u' (moreC m c).2 (moreC m' c').2) ∧ (moreC m' c').1 = (moreC m c).1 := by
  intro m
  induction m with
  | zero => intro u c c' h m' hm; rw [h.s] at hm; simp at hm
  | succ m ih =>
    intro u c c' h m' hm hm'
    cases m' with
    | zero => rw [h.s'] at hm'; simp at hm'
    | succ m' =>
      unfold moreC
      rw [h.sees]
      split
      · rename_i hs
        obtain ⟨u1, h1⟩ := h.take (b := 32) (by decide)
        obtain ⟨⟨u2, h2⟩, hv⟩ := h1.op
        have hs' : seesC c' 32 = true := by rw [h.sees]; exact hs
        have k1 : (sfx (opC (takeC c 32))).length ≤ m := by
          have h5 := op_at (takeC c 32)
          rw [take_yes hs] at h5 ⊢
          have h6 := (op_cs { c with at' := c.at' + 1 }).1
          unfold sfx at hm ⊢
          rw [h6]
          rw [List.length_drop] at hm ⊢
          simp only at h5 ⊢
          have := (sees_lt hs).2.1
          omega
        have k2 : (sfx (opC (takeC c' 32))).length ≤ m' := by
          have h5 := op_at (takeC c' 32)
          rw [take_yes hs'] at h5 ⊢
          have h6 := (op_cs { c' with at' := c'.at' + 1 }).1
          unfold sfx at hm' ⊢
          rw [h6]
          rw [List.length_drop] at hm' ⊢
          simp only at h5 ⊢
          have := (sees_lt hs').2.1
          omega
        obtain ⟨h7, h8⟩ := ih h2 k1 k2
        exact ⟨h7, by rw [hv, h8]⟩
      · exact ⟨⟨u, h⟩, rfl⟩
/-- A line, read alike. -/
theorem Sm.line (h : Sm k r r' u c c') : (lineC c').at' = (lineC c).at' + k ∧ (lineC c').ops = (lineC c).ops ∧ (lineC c').e = (lineC c).e ∧ lineV c' = lineV c ∧ ((lineC c).e = 0 → sfx (lineC c) = r ∧ sfx (lineC c') = r') := by
  have fin : ∀ {u : List UInt8} {c c' : Cur}, Sm k r r' u c c' → seesC c 10 = true → ({ c' with at' := c'.at' + 1 } : Cur).at' = ({ c with at' := c.at' + 1 } : Cur).at' + k ∧ sfx { c with at' := c.at' + 1 } = r ∧ sfx { c' with at' := c'.at' + 1 } = r' := by
    intro u c c' h hs
    cases u with
    | nil => exact ⟨by show c'.at' + 1 = c.at' + 1 + k; rw [h.at']; omega, (drop_cons (t := r) h.s).2.2, (drop_cons (t := r') h.s').2.2⟩
    | cons x u =>
      rw [sees_sfx (t := u ++ 10 :: r) h.s] at hs
      simp only [Bool.and_eq_true, decide_eq_true_eq] at hs
      exact absurd (by rw [hs.2]; exact List.mem_cons_self) h.no
  unfold lineC lineV
  rw [h.sees]
  split
  · rename_i hs
    have hs' : seesC c' 10 = true := by rw [h.sees]; exact hs
    rw [take_yes hs, take_yes hs']
    obtain ⟨h1, h2, h3⟩ := fin h hs
    exact ⟨h1, h.ops, h.e, rfl, fun _ => ⟨h2, h3⟩⟩
  · obtain ⟨⟨u1, h1⟩, hv⟩ := h.op
    have k1 : (sfx (opC c)).length ≤ c.s.length := by unfold sfx; rw [List.length_drop, (op_cs c).1]; omega
    have k2 : (sfx (opC c')).length ≤ c'.s.length := by unfold sfx; rw [List.length_drop, (op_cs c').1]; omega
    obtain ⟨⟨u2, h2⟩, h3⟩ := h1.more k1 k2
    rw [hv, h3]
    generalize (moreC c.s.length (opC c)).2 = d at *
    generalize (moreC c'.s.length (opC c')).2 = d' at *
    by_cases hs : seesC d 10 = true
    · have hs' : seesC d' 10 = true := by rw [h2.sees]; exact hs
      rw [must_yes hs, must_yes hs']
      obtain ⟨h4, h5, h6⟩ := fin h2 hs
      exact ⟨h4, h2.ops, h2.e, rfl, fun _ => ⟨h5, h6⟩⟩
    · have hs' : ¬ seesC d' 10 = true := by rw [h2.sees]; exact hs
      have he : ∀ c : Cur, ¬ seesC c 10 = true → mustC c 10 = failC c 2 := fun c h => by rw [mustC, if_neg h, take_no h]
      rw [he d hs, he d' hs']
      have h4 := h2.fail 2
      refine ⟨h4.at', h4.ops, h4.e, rfl, fun h0 => ?_⟩
      exfalso
      unfold failC at h0
      split at h0
      · cases h0
      · contradiction
end
end Go.AM

set_option linter.unusedVariables false
set_option linter.unusedSimpArgs false
namespace Go.AM
attribute [-simp] List.length_flatten List.map_flatten List.map_take List.map_map List.flatten_append
/-! What may be wrong. -/
def ok3 (c : Cur) : Prop := c.e = 0 ∨ c.e = 2 ∨ c.e = 3
theorem getS_e (s : List UInt8) : (getS s).2 = 0 ∨ (getS s).2 = 2 ∨ (getS s).2 = 3 := by
  unfold getS
  repeat' split
  all_goals simp
theorem fail_3 {c : Cur} {e : Int} (h : ok3 c) (he : e = 0 ∨ e = 2 ∨ e = 3) : ok3 (failC c e) := by
  unfold failC; split
  · exact he
  · exact h
theorem take_3 {c : Cur} {b : UInt8} (h : ok3 c) : ok3 (takeC c b) := by
  unfold takeC; split <;> exact h
theorem must_3 {c : Cur} {b : UInt8} (h : ok3 c) : ok3 (mustC c b) := by
  unfold mustC; split
  · exact take_3 h
  · exact fail_3 (take_3 h) (.inr (.inl rfl))
theorem name_3 {c : Cur} (h : ok3 c) : ok3 (nameC c) := by
  unfold nameC; split
  · exact fail_3 h (.inr (.inl rfl))
  · exact h
theorem number_3 {c : Cur} (h : ok3 c) : ok3 (numberC c) := by
  unfold numberC; split
  · split
    · exact h
    · exact fail_3 h (getS_e _)
  · exact h
theorem op_3 {c : Cur} (h : ok3 c) : ok3 (opC c) := by
  have h1 : ok3 (op1 c) := by
    unfold op1; split
    · exact fail_3 h (.inr (.inr rfl))
    · exact h
  have h3 : ok3 (op3 c) := by
    unfold op3; split
    · exact take_3 h1
    · exact must_3 (take_3 h1)
  have h7 : ok3 (op7 c) := number_3 (must_3 (name_3 (must_3 h3)))
  exact h7
theorem more_3 : ∀ {m : Nat} {c : Cur}, ok3 c → ok3 (moreC m c).2
  | 0, _, h => h
  | m + 1, c, h => by
    unfold moreC; split
    · exact more_3 (op_3 (take_3 h))
    · exact h
theorem line_3 {c : Cur} (h : ok3 c) : ok3 (lineC c) := by
  unfold lineC; split
  · exact take_3 h
  · exact must_3 (more_3 (op_3 h))
theorem text_3 : ∀ {m : Nat} {c : Cur}, ok3 c → ok3 (textC m c).2
  | 0, _, h => h
  | m + 1, c, h => by
    unfold textC; split
    · exact text_3 (line_3 h)
    · exact h
/-! An operation that is read is right. -/
theorem must_e0 {c : Cur} {b : UInt8} (h : (mustC c b).e = 0) : c.e = 0 := (sees_lt (must_e h)).1
theorem name_e0 {c : Cur} (h : (nameC c).e = 0) : c.e = 0 ∧ nameN c ≠ 0 := by
  unfold nameC at h
  split at h
  · unfold failC at h
    split at h
    · cases h
    · contradiction
  · exact ⟨h, by assumption⟩
theorem number_e0 {c : Cur} (h : (numberC c).e = 0) : c.e = 0 := by
  unfold numberC at h
  split at h
  · assumption
  · exact h
theorem op_right {c : Cur} (h : (opC c).e = 0) : nameB (opV c).v = true ∧ c.ops ≠ 4096 ∧ c.e = 0 := by
  have h6 : (op6 c).e = 0 := number_e0 h
  have h5 : (op5 c).e = 0 := must_e0 h6
  obtain ⟨h4, hn⟩ := name_e0 h5
  have h3 : (op3 c).e = 0 := must_e0 h4
  have h1 : (op1 c).e = 0 ∧ (seesC (op1 c) 119 = true ∨ seesC (op1 c) 114 = true) := by
    unfold op3 at h3
    split at h3
    · rename_i hs
      exact ⟨(sees_lt hs).1, .inl hs⟩
    · rename_i hs
      have h2 := must_e h3
      rw [show op2 c = op1 c from take_no hs] at h2
      exact ⟨(sees_lt h2).1, .inr h2⟩
  refine ⟨?_, ?_⟩
  · have hN := hn
    unfold nameN at hN
    rw [if_pos h4] at hN
    show nameB ((((op4 c).s.drop (op4 c).at').take (nameN (op4 c)))) = true
    generalize hl : (op4 c).s.drop (op4 c).at' = l at *
    have hm : nameN (op4 c) = min 8 (l.takeWhile low).length := by rw [nameN, if_pos h4, hl]
    rw [hm]
    have hle := tw_le (p := low) l
    have hall : (l.take (min 8 (l.takeWhile low).length)).all low = true := by
      have : l.take (min 8 (l.takeWhile low).length) = (l.takeWhile low).take (min 8 (l.takeWhile low).length) := by
        conv => lhs; rw [← List.takeWhile_append_dropWhile (p := low) (l := l)]
        rw [List.take_append_of_le_length (by rw [List.takeWhile_append_dropWhile]; omega), List.takeWhile_append_dropWhile]
      rw [this]
      exact List.all_eq_true.2 fun x hx => List.all_eq_true.1 List.all_takeWhile x (List.mem_of_mem_take hx)
    have hlen : (l.take (min 8 (l.takeWhile low).length)).length = min 8 (l.takeWhile low).length := by rw [List.length_take]; omega
    rw [nameB, hall, hlen]
    simp; omega
  · by_cases hs : small c
    · rw [op1_id hs] at h1
      exact ⟨fun h0 => hs ⟨h0, h1.2⟩, h1.1⟩
    · have : (op1 c).e ≠ 0 ∨ c.e = 0 := by
        by_cases h0 : c.e = 0
        · exact .inr h0
        · exact .inl (by rw [op1, if_pos (Decidable.not_not.1 hs), stuck_fail h0]; exact h0)
      have h0 := this.resolve_left (fun h' => h' h1.1)
      rw [op_large h0 hs] at h
      cases h
theorem more_right : ∀ {m : Nat} {c : Cur}, (moreC m c).2.e = 0 → c.ops ≤ 4096 → c.e = 0 ∧ (moreC m c).2.ops ≤ 4096 ∧ ∀ o ∈ (moreC m c).1, nameB o.v = true
  | 0, c, h, hn => ⟨h, hn, fun o ho => by cases ho⟩
  | m + 1, c, h, hn => by
    unfold moreC at h ⊢; split
    · rename_i hs
      rw [if_pos hs] at h
      have hT : (takeC c 32).ops = c.ops := (take_s _ _).2.1
      have key : (opC (takeC c 32)).e = 0 := by
        by_cases h0 : (opC (takeC c 32)).e = 0
        · exact h0
        · rw [stuck_more h0] at h; exact h
      obtain ⟨h1, h2, h3⟩ := op_right key
      obtain ⟨-, h5, h6⟩ := more_right (m := m) h (by rw [(op_cs _).2]; omega)
      refine ⟨(sees_lt hs).1, h5, fun o ho => ?_⟩
      rcases List.mem_cons.1 ho with rfl | ho
      · exact h1
      · exact h6 o ho
    · rename_i hs
      rw [if_neg hs] at h
      exact ⟨h, hn, fun o ho => by cases ho⟩
theorem line_right {c : Cur} (h : (lineC c).e = 0) (hn : c.ops ≤ 4096) : c.e = 0 ∧ (lineC c).ops ≤ 4096 ∧ nth c.s ((lineC c).at' - 1) = 10 ∧ ∀ o ∈ lineV c, nameB o.v = true := by
  unfold lineC lineV at *
  split
  · rename_i hs
    rw [take_yes hs]
    obtain ⟨h1, h2, h3⟩ := sees_lt hs
    exact ⟨h1, hn, h3, fun o ho => by cases ho⟩
  · rename_i hs
    rw [if_neg hs] at h
    have h1 := must_e h
    have h2 := (sees_lt h1).1
    have h3 : (opC c).e = 0 := by
      by_cases h0 : (opC c).e = 0
      · exact h0
      · rw [stuck_more h0] at h2; exact h2
    obtain ⟨k1, k2, k3⟩ := op_right h3
    obtain ⟨-, h5, h6⟩ := more_right h2 (by rw [(op_cs _).2]; omega)
    refine ⟨k3, by rw [(must_s _ _).2]; exact h5, ?_, fun o ho => ?_⟩
    · rw [must_yes h1]
      have h7 := (sees_lt h1).2.2
      rw [more_s, (op_cs _).1] at h7
      exact h7
    · rcases List.mem_cons.1 ho with rfl | ho
      · exact k1
      · exact h6 o ho
theorem text_right : ∀ {m : Nat} {c : Cur}, (textC m c).2.e = 0 → c.ops ≤ 4096 → okL c → c.s.length - c.at' ≤ m → (c.at' = 0 ∨ nth c.s (c.at' - 1) = 10) → (textC m c).2.ops ≤ 4096 ∧ (∀ o ∈ (textC m c).1.flatten, nameB o.v = true) ∧ (textC m c).2.at' = c.s.length ∧ (c.s.length = 0 ∨ nth c.s (c.s.length - 1) = 10)
  | 0, c, h, hn, ok, hm, h10 => by
    have h1 := ok.1.1
    have h2 : c.at' = c.s.length := by omega
    exact ⟨hn, (fun o ho => by simp [textC] at ho), h2, (by rw [← h2]; exact h10)⟩
  | m + 1, c, h, hn, ok, hm, h10 => by
    unfold textC at h ⊢; split
    · rename_i hc
      rw [if_pos hc] at h
      have he : (lineC c).e = 0 := by
        by_cases h0 : (lineC c).e = 0
        · exact h0
        · rw [stuck_text h0] at h; exact h
      obtain ⟨-, h1, h2, h3⟩ := line_right he hn
      obtain ⟨k1, k2⟩ := line_ops ok he
      obtain ⟨k3, k4, k5, k6⟩ := text_right (m := m) h h1 k1 (by rw [line_s]; omega) (by rw [line_s]; exact .inr h2)
      rw [line_s] at k5 k6
      refine ⟨k3, fun o ho => ?_, k5, k6⟩
      rw [List.flatten_cons] at ho
      rcases List.mem_append.1 ho with ho | ho
      · exact h3 o ho
      · exact k4 o ho
    · rename_i hc
      rw [if_neg hc] at h
      have h1 := ok.1.1
      have h2 : c.at' = c.s.length := by
        by_cases h' : c.at' < c.s.length
        · exact absurd ⟨h, h'⟩ hc
        · omega
      exact ⟨hn, (fun o ho => by simp [textC] at ho), h2, (by rw [← h2]; exact h10)⟩
theorem read_right {s : List UInt8} (hs : s.length ≤ 1048576) (he : (readT s).2.e = 0) : rightB (readT s).1 = true ∧ (s.length = 0 ∨ nth s (s.length - 1) = 10) := by
  obtain ⟨h1, h2, h3, h4⟩ := text_right (m := s.length) (c := ⟨s, 0, 0, 0⟩) he (Nat.zero_le _) ⟨⟨Nat.zero_le _, hs⟩, Nat.le_refl _⟩ (Nat.le_refl _) (.inl rfl)
  refine ⟨?_, h4⟩
  have h5 := (read_inv hs).2.1
  rw [rightB, Bool.and_eq_true, List.all_eq_true, decide_eq_true_eq]
  exact ⟨h2, by rw [h5]; exact h1⟩
/-- A line without an end. -/
theorem line_open {c : Cur} (h : (10 : UInt8) ∉ sfx c) : ¬ (lineC c).e = 0 := by
  intro he
  have key : ∀ d : Cur, d.s = c.s → c.at' ≤ d.at' → seesC d 10 = true → False := fun d hs ha h' => by
    obtain ⟨h1, h2, h3⟩ := sees_lt h'
    rw [hs] at h2 h3
    refine h ?_
    unfold sfx
    rw [← h3, nth_eq h2, List.mem_iff_getElem]
    exact ⟨d.at' - c.at', by rw [List.length_drop]; omega, by rw [List.getElem_drop]; congr 1; omega⟩
  unfold lineC at he
  split at he
  · rename_i hs; exact key c rfl (Nat.le_refl _) hs
  · refine key _ (more_s.trans (op_cs _).1) ?_ (must_e he)
    exact Nat.le_trans (op_at c) more_at
end Go.AM

set_option linter.unusedVariables false
set_option linter.unusedSimpArgs false
namespace Go.AM
attribute [-simp] List.length_flatten List.map_flatten List.map_take List.map_map List.flatten_append
theorem sfx_len (c : Cur) : (sfx c).length = c.s.length - c.at' := by unfold sfx; exact List.length_drop
theorem text_cut : ∀ (m m' : Nat) (c c' : Cur) (w : List UInt8), c.e = 0 → c'.e = 0 → c'.ops = c.ops → c'.at' = c.at' → sfx c = w ++ [10] → sfx c' = w → w.length + 1 ≤ m → w.length ≤ m' → (textC m c).2.e = 0 → ¬ (textC m' c').2.e = 0 ∨ (textC m' c').1.length + 1 = (textC m c).1.length := by
  intro m
  induction m with
  | zero => intro m' c c' w _ _ _ _ _ _ h; omega
  | succ m ih =>
    intro m' c c' w he he' ho ha hs hs' hm hm' hf
    have hl := sfx_len c
    have hl' := sfx_len c'
    rw [hs, List.length_append, List.length_singleton] at hl
    rw [hs'] at hl'
    have hc : c.e = 0 ∧ c.at' < c.s.length := ⟨he, by omega⟩
    rw [textC, if_pos hc] at hf ⊢
    have hle : (lineC c).e = 0 := by
      by_cases h0 : (lineC c).e = 0
      · exact h0
      · rw [stuck_text h0] at hf; exact hf
    by_cases h10 : (10 : UInt8) ∈ w
    · obtain ⟨u, w', rfl, hu⟩ := List.eq_append_cons_of_mem h10
      have hS : Sm 0 (w' ++ [10]) w' u c c' := ⟨ha, ho, he'.trans he.symm, hu, by rw [hs]; simp, hs'⟩
      obtain ⟨h1, h2, h3, h4, h5⟩ := hS.line
      obtain ⟨h6, h7⟩ := h5 hle
      simp only [List.length_append, List.length_cons] at hm hm' hl'
      obtain ⟨k, rfl⟩ : ∃ k, m' = k + 1 := ⟨m' - 1, by omega⟩
      rw [textC, if_pos ⟨he', by omega⟩]
      rcases ih k (lineC c) (lineC c') w' hle (h3.trans hle) h2 h1 h6 h7 (by omega) (by omega) hf with h | h
      · exact .inl h
      · right
        simp only [List.length_cons]; omega
    · have hS : Sm 0 [] [] w c c := ⟨rfl, rfl, rfl, h10, hs, hs⟩
      obtain ⟨-, -, -, -, h5⟩ := hS.line
      have h6 := (h5 hle).1
      have h7 := sfx_len (lineC c)
      rw [h6] at h7
      simp only [List.length_nil] at h7
      have h8 : textC m (lineC c) = ([], lineC c) := by
        cases m with
        | zero => rfl
        | succ m => rw [textC, if_neg (fun h => by have := h.2; omega)]
      rw [h8]
      cases w with
      | nil =>
        right
        have : textC m' c' = ([], c') := by
          cases m' with
          | zero => rfl
          | succ m' => rw [textC, if_neg (fun h => by have := h.2; simp only [List.length_nil] at hl'; omega)]
        rw [this]; rfl
      | cons x w =>
        left
        simp only [List.length_cons] at hm' hl'
        obtain ⟨k, rfl⟩ : ∃ k, m' = k + 1 := ⟨m' - 1, by omega⟩
        rw [textC, if_pos ⟨he', by omega⟩]
        have := line_open (c := c') (by rw [hs']; exact h10)
        rw [stuck_text this]; exact this
theorem read_cut {s : List UInt8} (h0 : 0 < s.length) (he : (readT s).2.e = 0) (h10 : nth s (s.length - 1) = 10) : ¬ (readT (s.take (s.length - 1))).2.e = 0 ∨ (readT (s.take (s.length - 1))).1.length + 1 = (readT s).1.length := by
  refine text_cut _ _ _ _ (s.take (s.length - 1)) rfl rfl rfl rfl ?_ rfl ?_ (Nat.le_refl _) he
  · show s = _
    conv => lhs; rw [← List.take_append_drop (s.length - 1) s]
    congr 1
    rw [List.drop_eq_getElem_cons (by omega), ← nth_eq (by omega), h10, List.drop_of_length_le (by omega)]
  · rw [List.length_take]; omega
set_option maxHeartbeats 2000000 in
instance readRight (s : List UInt8) : PCon T0 n.law07_ReadRight [.str s] true (okT s) (.bool true) := ⟨fun hs => by
  have hs : s.length ≤ 1048576 := hs
  have c1 : PCon T0 n.read_Text [.str s] true True _ := ⟨fun _ => by have := (read_Text s).con hs; rw [readV_eq] at this; exact this⟩
  refine pc tabOk ?_
  repeat' first | (apply dr_fin; (focus exact xx)) | (apply dr_v; focus (apply DV.mk; (focus exact RF.mk rfl); (focus exact RF.mk rfl); (focus exact RF.mk rfl); (focus exact RF.mk rfl); (focus exact xx); focus (first | exact InD.no | (apply InD.so; (focus exact xx))))) | (apply dr_r; focus (apply DL.mk; (focus exact RF.mk rfl); (focus exact xx); (focus exact xx); focus (first | exact InD.no | (apply InD.so; (focus exact xx))))) | (apply dr_l; (focus exact RF.mk rfl); (focus exact RF.mk rfl); (focus exact RF.mk rfl); (focus exact RF.mk rfl); (focus exact RF.mk rfl)) | (apply dr_e; (focus exact RF.mk rfl); (focus exact RF.mk rfl); (focus exact RF.mk rfl); (focus exact RF.mk rfl)) | (apply rd_e; (focus exact xx); focus (repeat first | exact PO.nil | apply PO.zero | (apply PO.ld; (focus exact xx)))) | (apply rd_l; (focus exact xx)) | refine wh_seq ?_ | refine wh_skip ?_ | refine wh_block ?_ | refine wh_end ?_ | refine wh_exit ?_ | refine wh_ret ?_ | refine bk_norm ?_ | refine bk_exit ?_ | refine bk_ret ?_ | refine fr_exit ?_ | refine fr_ret ?_ | refine lp_exit ?_ | refine lp_ret ?_ | refine jn_exit ?_ | refine jn_ret ?_ | refine bk_other rfl ?_ | (apply wr; focus exact xx) | refine wh_reg ?_ | refine wh_ife ?_ | (apply re; focus exact xx) | (apply ra; (focus exact xx); (focus exact xx); intro _) | (apply r1; (focus exact xx); (focus exact xx); intro _) | (apply rl; (focus exact xx); (focus exact xx); intro _) | (apply rb; (focus exact xx); (focus exact xx); intro _) | (apply rsi; (focus exact xx); (focus exact xx); all_goals try infer_instance) | (apply rsz; (focus exact xx); (focus exact xx); all_goals try infer_instance) | (apply rt; (focus exact xx); (focus exact xx)) | (apply rso; (focus exact xx); (focus exact xx); all_goals try infer_instance) | (apply rmm; (focus exact xx); intro _) | (apply rsb; (focus exact xx); (focus exact xx)) | (apply ru; (focus exact xx); (focus exact xx)) | (apply rm; (focus exact xx); (focus exact xx); intro _) | (apply rk; (focus exact xx); (focus exact xx); intro _) | (apply rcf; (focus exact xx); (focus (apply ACF.mk; (focus exact xx); (focus exact inferInstance); (focus exact xx); (focus exact inferInstance); (focus exact xx); (focus exact rfl)))) | (apply rco; (focus exact xx); (focus (apply ACO.mk; (focus exact xx); (focus exact xx); (focus exact inferInstance); (focus exact xx); (focus exact xx))); intro _) | (apply rc; (focus exact xx); (focus exact xx)) | (apply rk'; (focus exact xx); (focus exact xx))
  ((first | apply wi | apply rf); (focus exact xx); (focus exact xx); all_goals intro _)
  · repeat' first | (apply dr_fin; (focus exact xx)) | (apply dr_v; focus (apply DV.mk; (focus exact RF.mk rfl); (focus exact RF.mk rfl); (focus exact RF.mk rfl); (focus exact RF.mk rfl); (focus exact xx); focus (first | exact InD.no | (apply InD.so; (focus exact xx))))) | (apply dr_r; focus (apply DL.mk; (focus exact RF.mk rfl); (focus exact xx); (focus exact xx); focus (first | exact InD.no | (apply InD.so; (focus exact xx))))) | (apply dr_l; (focus exact RF.mk rfl); (focus exact RF.mk rfl); (focus exact RF.mk rfl); (focus exact RF.mk rfl); (focus exact RF.mk rfl)) | (apply dr_e; (focus exact RF.mk rfl); (focus exact RF.mk rfl); (focus exact RF.mk rfl); (focus exact RF.mk rfl)) | (apply rd_e; (focus exact xx); focus (repeat first | exact PO.nil | apply PO.zero | (apply PO.ld; (focus exact xx)))) | (apply rd_l; (focus exact xx)) | refine wh_seq ?_ | refine wh_skip ?_ | refine wh_block ?_ | refine wh_end ?_ | refine wh_exit ?_ | refine wh_ret ?_ | refine bk_norm ?_ | refine bk_exit ?_ | refine bk_ret ?_ | refine fr_exit ?_ | refine fr_ret ?_ | refine lp_exit ?_ | refine lp_ret ?_ | refine jn_exit ?_ | refine jn_ret ?_ | refine bk_other rfl ?_ | (apply wr; focus exact xx) | (apply wi; (focus exact xx); (focus exact xx); all_goals intro _; all_goals try first | contradiction | (exfalso; omega) | exact absurd trivial ‹_›) | refine wh_reg ?_ | refine wh_ife ?_ | (apply re; focus exact xx) | (apply rf; (focus exact xx); (focus exact xx); all_goals intro _; all_goals try first | contradiction | (exfalso; omega) | exact absurd trivial ‹_›) | (apply ra; (focus exact xx); (focus exact xx); intro _) | (apply r1; (focus exact xx); (focus exact xx); intro _) | (apply rl; (focus exact xx); (focus exact xx); intro _) | (apply rb; (focus exact xx); (focus exact xx); intro _) | (apply rsi; (focus exact xx); (focus exact xx); all_goals try infer_instance) | (apply rsz; (focus exact xx); (focus exact xx); all_goals try infer_instance) | (apply rt; (focus exact xx); (focus exact xx)) | (apply rso; (focus exact xx); (focus exact xx); all_goals try infer_instance) | (apply rmm; (focus exact xx); intro _) | (apply rsb; (focus exact xx); (focus exact xx)) | (apply ru; (focus exact xx); (focus exact xx)) | (apply rm; (focus exact xx); (focus exact xx); intro _) | (apply rk; (focus exact xx); (focus exact xx); intro _) | (apply rcf; (focus exact xx); (focus (apply ACF.mk; (focus exact xx); (focus exact inferInstance); (focus exact xx); (focus exact inferInstance); (focus exact xx); (focus exact rfl)))) | (apply rco; (focus exact xx); (focus (apply ACO.mk; (focus exact xx); (focus exact xx); (focus exact inferInstance); (focus exact xx); (focus exact xx))); intro _) | (apply rc; (focus exact xx); (focus exact xx)) | (apply rk'; (focus exact xx); (focus exact xx))
    exact fz rfl
  rename_i hc
  have hh : hb (rdH s) := rd_hb (by omega)
  obtain ⟨hh1, hh2⟩ := hh
  have hh' : hb (rdH s) := ⟨hh1, hh2⟩
  repeat' first | (apply dr_fin; (focus exact xx)) | (apply dr_v; focus (apply DV.mk; (focus exact RF.mk rfl); (focus exact RF.mk rfl); (focus exact RF.mk rfl); (focus exact RF.mk rfl); (focus exact xx); focus (first | exact InD.no | (apply InD.so; (focus exact xx))))) | (apply dr_r; focus (apply DL.mk; (focus exact RF.mk rfl); (focus exact xx); (focus exact xx); focus (first | exact InD.no | (apply InD.so; (focus exact xx))))) | (apply dr_l; (focus exact RF.mk rfl); (focus exact RF.mk rfl); (focus exact RF.mk rfl); (focus exact RF.mk rfl); (focus exact RF.mk rfl)) | (apply dr_e; (focus exact RF.mk rfl); (focus exact RF.mk rfl); (focus exact RF.mk rfl); (focus exact RF.mk rfl)) | (apply rd_e; (focus exact xx); focus (repeat first | exact PO.nil | apply PO.zero | (apply PO.ld; (focus exact xx)))) | (apply rd_l; (focus exact xx)) | refine wh_seq ?_ | refine wh_skip ?_ | refine wh_block ?_ | refine wh_end ?_ | refine wh_exit ?_ | refine wh_ret ?_ | refine bk_norm ?_ | refine bk_exit ?_ | refine bk_ret ?_ | refine fr_exit ?_ | refine fr_ret ?_ | refine lp_exit ?_ | refine lp_ret ?_ | refine jn_exit ?_ | refine jn_ret ?_ | refine bk_other rfl ?_ | (apply wr; focus exact xx) | refine wh_reg ?_ | refine wh_ife ?_ | (apply re; focus exact xx) | (apply ra; (focus exact xx); (focus exact xx); intro _) | (apply r1; (focus exact xx); (focus exact xx); intro _) | (apply rl; (focus exact xx); (focus exact xx); intro _) | (apply rb; (focus exact xx); (focus exact xx); intro _) | (apply rsi; (focus exact xx); (focus exact xx); all_goals try infer_instance) | (apply rsz; (focus exact xx); (focus exact xx); all_goals try infer_instance) | (apply rt; (focus exact xx); (focus exact xx)) | (apply rso; (focus exact xx); (focus exact xx); all_goals try infer_instance) | (apply rmm; (focus exact xx); intro _) | (apply rsb; (focus exact xx); (focus exact xx)) | (apply ru; (focus exact xx); (focus exact xx)) | (apply rm; (focus exact xx); (focus exact xx); intro _) | (apply rk; (focus exact xx); (focus exact xx); intro _) | (apply rcf; (focus exact xx); (focus (apply ACF.mk; (focus exact xx); (focus exact inferInstance); (focus exact xx); (focus exact inferInstance); (focus exact xx); (focus exact rfl)))) | (apply rco; (focus exact xx); (focus (apply ACO.mk; (focus exact xx); (focus exact xx); (focus exact inferInstance); (focus exact xx); (focus exact xx))); intro _) | (apply rc; (focus exact xx); (focus exact xx)) | (apply rk'; (focus exact xx); (focus exact xx))
  ((first | apply wi | apply rf); (focus exact xx); (focus exact xx); all_goals intro _)
  · rename_i he
    have h1 : rdH s = [] := if_neg he
    have h2 : ((rdI s : Nat) : Int) ≤ (s.length : Int) := by
      have := (read_inv hs).2.2.1.1
      rw [(read_inv hs).2.2.2.2] at this
      rw [rdI, if_neg (show ¬ (readT s).2.e = 0 from he)]
      omega
    have h3 : rdE s = 2 ∨ rdE s = 3 := by
      have : ok3 (readT s).2 := text_3 (.inl rfl)
      exact this.resolve_left he
    repeat' first | (apply dr_fin; (focus exact xx)) | (apply dr_v; focus (apply DV.mk; (focus exact RF.mk rfl); (focus exact RF.mk rfl); (focus exact RF.mk rfl); (focus exact RF.mk rfl); (focus exact xx); focus (first | exact InD.no | (apply InD.so; (focus exact xx))))) | (apply dr_r; focus (apply DL.mk; (focus exact RF.mk rfl); (focus exact xx); (focus exact xx); focus (first | exact InD.no | (apply InD.so; (focus exact xx))))) | (apply dr_l; (focus exact RF.mk rfl); (focus exact RF.mk rfl); (focus exact RF.mk rfl); (focus exact RF.mk rfl); (focus exact RF.mk rfl)) | (apply dr_e; (focus exact RF.mk rfl); (focus exact RF.mk rfl); (focus exact RF.mk rfl); (focus exact RF.mk rfl)) | (apply rd_e; (focus exact xx); focus (repeat first | exact PO.nil | apply PO.zero | (apply PO.ld; (focus exact xx)))) | (apply rd_l; (focus exact xx)) | refine wh_seq ?_ | refine wh_skip ?_ | refine wh_block ?_ | refine wh_end ?_ | refine wh_exit ?_ | refine wh_ret ?_ | refine bk_norm ?_ | refine bk_exit ?_ | refine bk_ret ?_ | refine fr_exit ?_ | refine fr_ret ?_ | refine lp_exit ?_ | refine lp_ret ?_ | refine jn_exit ?_ | refine jn_ret ?_ | refine bk_other rfl ?_ | (apply wr; focus exact xx) | (apply wi; (focus exact xx); (focus exact xx); all_goals intro _; all_goals try first | contradiction | (exfalso; omega) | exact absurd trivial ‹_›) | refine wh_reg ?_ | refine wh_ife ?_ | (apply re; focus exact xx) | (apply rf; (focus exact xx); (focus exact xx); all_goals intro _; all_goals try first | contradiction | (exfalso; omega) | exact absurd trivial ‹_›) | (apply ra; (focus exact xx); (focus exact xx); intro _) | (apply r1; (focus exact xx); (focus exact xx); intro _) | (apply rl; (focus exact xx); (focus exact xx); intro _) | (apply rb; (focus exact xx); (focus exact xx); intro _) | (apply rsi; (focus exact xx); (focus exact xx); all_goals try infer_instance) | (apply rsz; (focus exact xx); (focus exact xx); all_goals try infer_instance) | (apply rt; (focus exact xx); (focus exact xx)) | (apply rso; (focus exact xx); (focus exact xx); all_goals try infer_instance) | (apply rmm; (focus exact xx); intro _) | (apply rsb; (focus exact xx); (focus exact xx)) | (apply ru; (focus exact xx); (focus exact xx)) | (apply rm; (focus exact xx); (focus exact xx); intro _) | (apply rk; (focus exact xx); (focus exact xx); intro _) | (apply rcf; (focus exact xx); (focus (apply ACF.mk; (focus exact xx); (focus exact inferInstance); (focus exact xx); (focus exact inferInstance); (focus exact xx); (focus exact rfl)))) | (apply rco; (focus exact xx); (focus (apply ACO.mk; (focus exact xx); (focus exact xx); (focus exact inferInstance); (focus exact xx); (focus exact xx))); intro _) | (apply rc; (focus exact xx); (focus exact xx)) | (apply rk'; (focus exact xx); (focus exact xx))
    refine fz ?_
    rw [h1]
    rcases h3 with h | h <;> simp [h, h2]
  · rename_i he
    have he : rdE s = 0 := Decidable.not_not.1 he
    have he' : (readT s).2.e = 0 := he
    have hi := read_inv hs
    have hH : rdH s = (readT s).1 := if_pos he'
    have hI : rdI s = 0 := if_pos he'
    repeat' first | (apply dr_fin; (focus exact xx)) | (apply dr_v; focus (apply DV.mk; (focus exact RF.mk rfl); (focus exact RF.mk rfl); (focus exact RF.mk rfl); (focus exact RF.mk rfl); (focus exact xx); focus (first | exact InD.no | (apply InD.so; (focus exact xx))))) | (apply dr_r; focus (apply DL.mk; (focus exact RF.mk rfl); (focus exact xx); (focus exact xx); focus (first | exact InD.no | (apply InD.so; (focus exact xx))))) | (apply dr_l; (focus exact RF.mk rfl); (focus exact RF.mk rfl); (focus exact RF.mk rfl); (focus exact RF.mk rfl); (focus exact RF.mk rfl)) | (apply dr_e; (focus exact RF.mk rfl); (focus exact RF.mk rfl); (focus exact RF.mk rfl); (focus exact RF.mk rfl)) | (apply rd_e; (focus exact xx); focus (repeat first | exact PO.nil | apply PO.zero | (apply PO.ld; (focus exact xx)))) | (apply rd_l; (focus exact xx)) | refine wh_seq ?_ | refine wh_skip ?_ | refine wh_block ?_ | refine wh_end ?_ | refine wh_exit ?_ | refine wh_ret ?_ | refine bk_norm ?_ | refine bk_exit ?_ | refine bk_ret ?_ | refine fr_exit ?_ | refine fr_ret ?_ | refine lp_exit ?_ | refine lp_ret ?_ | refine jn_exit ?_ | refine jn_ret ?_ | refine bk_other rfl ?_ | (apply wr; focus exact xx) | refine wh_reg ?_ | refine wh_ife ?_ | (apply re; focus exact xx) | (apply ra; (focus exact xx); (focus exact xx); intro _) | (apply r1; (focus exact xx); (focus exact xx); intro _) | (apply rl; (focus exact xx); (focus exact xx); intro _) | (apply rb; (focus exact xx); (focus exact xx); intro _) | (apply rsi; (focus exact xx); (focus exact xx); all_goals try infer_instance) | (apply rsz; (focus exact xx); (focus exact xx); all_goals try infer_instance) | (apply rt; (focus exact xx); (focus exact xx)) | (apply rso; (focus exact xx); (focus exact xx); all_goals try infer_instance) | (apply rmm; (focus exact xx); intro _) | (apply rsb; (focus exact xx); (focus exact xx)) | (apply ru; (focus exact xx); (focus exact xx)) | (apply rm; (focus exact xx); (focus exact xx); intro _) | (apply rk; (focus exact xx); (focus exact xx); intro _) | (apply rcf; (focus exact xx); (focus (apply ACF.mk; (focus exact xx); (focus exact inferInstance); (focus exact xx); (focus exact inferInstance); (focus exact xx); (focus exact rfl)))) | (apply rco; (focus exact xx); (focus (apply ACO.mk; (focus exact xx); (focus exact xx); (focus exact inferInstance); (focus exact xx); (focus exact xx))); intro _) | (apply rc; (focus exact xx); (focus exact xx)) | (apply rk'; (focus exact xx); (focus exact xx))
    ((first | apply wi | apply rf); (focus exact xx); (focus exact xx); all_goals intro _)
    · rename_i h0
      repeat' first | (apply dr_fin; (focus exact xx)) | (apply dr_v; focus (apply DV.mk; (focus exact RF.mk rfl); (focus exact RF.mk rfl); (focus exact RF.mk rfl); (focus exact RF.mk rfl); (focus exact xx); focus (first | exact InD.no | (apply InD.so; (focus exact xx))))) | (apply dr_r; focus (apply DL.mk; (focus exact RF.mk rfl); (focus exact xx); (focus exact xx); focus (first | exact InD.no | (apply InD.so; (focus exact xx))))) | (apply dr_l; (focus exact RF.mk rfl); (focus exact RF.mk rfl); (focus exact RF.mk rfl); (focus exact RF.mk rfl); (focus exact RF.mk rfl)) | (apply dr_e; (focus exact RF.mk rfl); (focus exact RF.mk rfl); (focus exact RF.mk rfl); (focus exact RF.mk rfl)) | (apply rd_e; (focus exact xx); focus (repeat first | exact PO.nil | apply PO.zero | (apply PO.ld; (focus exact xx)))) | (apply rd_l; (focus exact xx)) | refine wh_seq ?_ | refine wh_skip ?_ | refine wh_block ?_ | refine wh_end ?_ | refine wh_exit ?_ | refine wh_ret ?_ | refine bk_norm ?_ | refine bk_exit ?_ | refine bk_ret ?_ | refine fr_exit ?_ | refine fr_ret ?_ | refine lp_exit ?_ | refine lp_ret ?_ | refine jn_exit ?_ | refine jn_ret ?_ | refine bk_other rfl ?_ | (apply wr; focus exact xx) | (apply wi; (focus exact xx); (focus exact xx); all_goals intro _; all_goals try first | contradiction | (exfalso; omega) | exact absurd trivial ‹_›) | refine wh_reg ?_ | refine wh_ife ?_ | (apply re; focus exact xx) | (apply rf; (focus exact xx); (focus exact xx); all_goals intro _; all_goals try first | contradiction | (exfalso; omega) | exact absurd trivial ‹_›) | (apply ra; (focus exact xx); (focus exact xx); intro _) | (apply r1; (focus exact xx); (focus exact xx); intro _) | (apply rl; (focus exact xx); (focus exact xx); intro _) | (apply rb; (focus exact xx); (focus exact xx); intro _) | (apply rsi; (focus exact xx); (focus exact xx); all_goals try infer_instance) | (apply rsz; (focus exact xx); (focus exact xx); all_goals try infer_instance) | (apply rt; (focus exact xx); (focus exact xx)) | (apply rso; (focus exact xx); (focus exact xx); all_goals try infer_instance) | (apply rmm; (focus exact xx); intro _) | (apply rsb; (focus exact xx); (focus exact xx)) | (apply ru; (focus exact xx); (focus exact xx)) | (apply rm; (focus exact xx); (focus exact xx); intro _) | (apply rk; (focus exact xx); (focus exact xx); intro _) | (apply rcf; (focus exact xx); (focus (apply ACF.mk; (focus exact xx); (focus exact inferInstance); (focus exact xx); (focus exact inferInstance); (focus exact xx); (focus exact rfl)))) | (apply rco; (focus exact xx); (focus (apply ACO.mk; (focus exact xx); (focus exact xx); (focus exact inferInstance); (focus exact xx); (focus exact xx))); intro _) | (apply rc; (focus exact xx); (focus exact xx)) | (apply rk'; (focus exact xx); (focus exact xx))
      refine fz ?_
      have : (rdH s).length = 0 := by rw [hH]; omega
      rw [this]; simp
    rename_i h0
    have h0 : 0 < s.length := by omega
    obtain ⟨hR, h10⟩ := read_right hs he'
    have h10 : nth s (s.length - 1) = 10 := h10.resolve_left (by omega)
    have hv : ∀ o ∈ (rdH s).flatten, o.v.length ≤ 1048576 := fun o ho => by
      rw [hH] at ho
      rw [rightB, Bool.and_eq_true, List.all_eq_true] at hR
      have := hR.1 o ho
      simp only [nameB, Bool.and_eq_true, decide_eq_true_eq] at this
      omega
    have c4 : PCon T0 n.ref06_Right [eH (rdH s)] false True (.bool true) := ⟨fun _ => by
      have := (ref06_Right (rdH s)).con ⟨hh', hv⟩
      rw [hH, hR] at this
      rw [hH]; exact this⟩
    obtain ⟨t, ht⟩ : ∃ t, s.take ((s.length : Int) - 1).toNat = t := ⟨_, rfl⟩
    have htl : t.length ≤ 1048576 := by rw [← ht, List.length_take]; omega
    have c3 : PCon T0 n.read_Text [.str (s.take ((s.length : Int) - 1).toNat)] true True (.tup [eH (rdH t), .int .i64 (rdI t : Nat), .int .i64 (rdE t)]) := ⟨fun _ => by rw [ht]; have := (read_Text t).con htl; rw [readV_eq] at this; exact this⟩
    have hcut := read_cut h0 he' h10
    rw [show s.length - 1 = ((s.length : Int) - 1).toNat by omega, ht] at hcut
    repeat' first | (apply dr_fin; (focus exact xx)) | (apply dr_v; focus (apply DV.mk; (focus exact RF.mk rfl); (focus exact RF.mk rfl); (focus exact RF.mk rfl); (focus exact RF.mk rfl); (focus exact xx); focus (first | exact InD.no | (apply InD.so; (focus exact xx))))) | (apply dr_r; focus (apply DL.mk; (focus exact RF.mk rfl); (focus exact xx); (focus exact xx); focus (first | exact InD.no | (apply InD.so; (focus exact xx))))) | (apply dr_l; (focus exact RF.mk rfl); (focus exact RF.mk rfl); (focus exact RF.mk rfl); (focus exact RF.mk rfl); (focus exact RF.mk rfl)) | (apply dr_e; (focus exact RF.mk rfl); (focus exact RF.mk rfl); (focus exact RF.mk rfl); (focus exact RF.mk rfl)) | (apply rd_e; (focus exact xx); focus (repeat first | exact PO.nil | apply PO.zero | (apply PO.ld; (focus exact xx)))) | (apply rd_l; (focus exact xx)) | refine wh_seq ?_ | refine wh_skip ?_ | refine wh_block ?_ | refine wh_end ?_ | refine wh_exit ?_ | refine wh_ret ?_ | refine bk_norm ?_ | refine bk_exit ?_ | refine bk_ret ?_ | refine fr_exit ?_ | refine fr_ret ?_ | refine lp_exit ?_ | refine lp_ret ?_ | refine jn_exit ?_ | refine jn_ret ?_ | refine bk_other rfl ?_ | (apply wr; focus exact xx) | (apply wi; (focus exact xx); (focus exact xx); all_goals intro _; all_goals try first | contradiction | (exfalso; omega) | exact absurd trivial ‹_›) | refine wh_reg ?_ | refine wh_ife ?_ | (apply re; focus exact xx) | (apply rf; (focus exact xx); (focus exact xx); all_goals intro _; all_goals try first | contradiction | (exfalso; omega) | exact absurd trivial ‹_›) | (apply ra; (focus exact xx); (focus exact xx); intro _) | (apply r1; (focus exact xx); (focus exact xx); intro _) | (apply rl; (focus exact xx); (focus exact xx); intro _) | (apply rb; (focus exact xx); (focus exact xx); intro _) | (apply rsi; (focus exact xx); (focus exact xx); all_goals try infer_instance) | (apply rsz; (focus exact xx); (focus exact xx); all_goals try infer_instance) | (apply rt; (focus exact xx); (focus exact xx)) | (apply rso; (focus exact xx); (focus exact xx); all_goals try infer_instance) | (apply rmm; (focus exact xx); intro _) | (apply rsb; (focus exact xx); (focus exact xx)) | (apply ru; (focus exact xx); (focus exact xx)) | (apply rm; (focus exact xx); (focus exact xx); intro _) | (apply rk; (focus exact xx); (focus exact xx); intro _) | (apply rcf; (focus exact xx); (focus (apply ACF.mk; (focus exact xx); (focus exact inferInstance); (focus exact xx); (focus exact inferInstance); (focus exact xx); (focus exact rfl)))) | (apply rco; (focus exact xx); (focus (apply ACO.mk; (focus exact xx); (focus exact xx); (focus exact inferInstance); (focus exact xx); (focus exact xx))); intro _) | (apply rc; (focus exact xx); (focus exact xx)) | (apply rk'; (focus exact xx); (focus exact xx))
    refine fz ?_
    have k1 : ((nth s ((s.length : Int) - 1).toNat).toNat : Int) = 10 := by
      rw [show ((s.length : Int) - 1).toNat = s.length - 1 by omega, h10]; rfl
    rw [hI, k1]
    refine congrArg V.bool ?_
    by_cases hf : rdE t = 0
    · have hf' : (readT t).2.e = 0 := hf
      have hT : rdH t = (readT t).1 := if_pos hf'
      have := hcut.resolve_left (fun h => h hf')
      rw [hT, hH]
      simp; omega
    · simp [hf]⟩
end Go.AM

