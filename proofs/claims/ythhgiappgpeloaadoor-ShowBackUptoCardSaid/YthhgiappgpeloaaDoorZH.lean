/- Part ZH of the proof. -/
import Derived.Test.YthhgiappgpeloaaDoorZC
import Derived.Test.YthhgiappgpeloaaDoorZG
import Derived.Test.YthhgiappgpeloaaDoorZD
set_option linter.unusedVariables false
set_option linter.unusedSimpArgs false
namespace Go.AM
open Go.Lib
attribute [-simp] List.length_flatten List.map_flatten List.map_take List.map_map List.flatten_append
/-! What is read is the text of what was read. -/
theorem take_eat {c : Cur} {b : UInt8} (h : seesC c b = true) : sfx c = b :: sfx { c with at' := c.at' + 1 } := by
  obtain ⟨-, h1, h2⟩ := sees_lt h
  unfold sfx
  rw [List.drop_eq_getElem_cons h1, ← nth_eq h1, h2]
theorem must_eat {c : Cur} {b : UInt8} (h : (mustC c b).e = 0) : sfx c = b :: sfx (mustC c b) ∧ c.e = 0 := by
  have hs := must_e h
  rw [must_yes hs]
  exact ⟨take_eat hs, (sees_lt hs).1⟩
theorem sfx_split (c : Cur) (k : Nat) : sfx c = (sfx c).take k ++ sfx { c with at' := c.at' + k } := by
  unfold sfx
  conv => lhs; rw [← List.take_append_drop k (c.s.drop c.at')]
  rw [List.drop_drop]
theorem number_eat {c : Cur} (h : (numberC c).e = 0) : sfx c = itoa (numberV c) ++ sfx (numberC c) ∧ okN (numberV c) ∧ c.e = 0 := by
  have he := number_e0 h
  by_cases hg : (getS (numT c)).2 = 0
  · have h1 : numberC c = { c with at' := c.at' + (spanI c.s c.at').toNat } := by rw [numberC, if_pos he, if_pos hg]
    have h2 : numberV c = (getS (numT c)).1 := by rw [numberV, if_pos he, if_pos hg]
    obtain ⟨k1, k2⟩ := itoa_get hg
    rw [h1, h2, k2]
    exact ⟨sfx_split c _, k1, he⟩
  · exfalso
    rw [numberC, if_pos he, if_neg hg, failC, if_pos he] at h
    exact hg h
theorem name_eat {c : Cur} (h : (nameC c).e = 0) : sfx c = (c.s.drop c.at').take (nameN c) ++ sfx (nameC c) ∧ c.e = 0 := by
  obtain ⟨he, hn⟩ := name_e0 h
  have h1 : nameC c = { c with at' := c.at' + nameN c } := by rw [nameC, if_neg hn]
  rw [h1]
  exact ⟨sfx_split c _, he⟩
theorem op_eat {c : Cur} (h : (opC c).e = 0) : sfx c = opT (opV c) ++ sfx (opC c) ∧ okN (opV c).x := by
  have hsm : op1 c = c := by
    obtain ⟨-, h2, -⟩ := op_right h
    rw [op1, if_neg (fun hh => h2 hh.1)]
  have h7 : (op7 c).e = 0 := h
  obtain ⟨n1, n2, h6⟩ := number_eat (c := op6 c) h7
  obtain ⟨m1, h5⟩ := must_eat (c := op5 c) h6
  obtain ⟨m2, h4⟩ := name_eat (c := op4 c) h5
  obtain ⟨m3, h3⟩ := must_eat (c := op3 c) h4
  have hk : sfx c = (if seesC c 119 = true then 119 else 114) :: sfx (op3 c) := by
    unfold op3 op2 at h3 ⊢
    rw [hsm] at h3 ⊢
    by_cases hw : seesC c 119 = true
    · rw [if_pos hw, if_pos hw, take_yes hw]
      exact take_eat hw
    · rw [if_neg hw] at h3
      rw [if_neg hw, if_neg hw]
      rw [take_no hw] at h3 ⊢
      exact (must_eat h3).1
  refine ⟨?_, n2⟩
  have e7 : sfx (opC c) = sfx (op7 c) := rfl
  have m3' : sfx (op3 c) = 58 :: sfx (op4 c) := m3
  have m2' : sfx (op4 c) = ((op4 c).s.drop (op4 c).at').take (nameN (op4 c)) ++ sfx (op5 c) := m2
  have m1' : sfx (op5 c) = 61 :: sfx (op6 c) := m1
  have n1' : sfx (op6 c) = itoa (numberV (op6 c)) ++ sfx (op7 c) := n1
  rw [hk, m3', m2', m1', n1', e7]
  show _ = opT ⟨seesC (op1 c) 119, ((op4 c).s.drop (op4 c).at').take (nameN (op4 c)), numberV (op6 c)⟩ ++ _
  rw [hsm]
  generalize sfx (op7 c) = z
  generalize numberV (op6 c) = q
  generalize ((op4 c).s.drop (op4 c).at').take (nameN (op4 c)) = v
  unfold opT
  cases seesC c 119 <;> simp
theorem more_e0 : ∀ {m : Nat} {c : Cur}, (moreC m c).2.e = 0 → c.e = 0
  | 0, c, h => h
  | m + 1, c, h => by
    unfold moreC at h
    split at h
    · rename_i hs; exact (sees_lt hs).1
    · exact h
theorem more_eat : ∀ {m : Nat} {c : Cur}, (moreC m c).2.e = 0 → sfx c = ((moreC m c).1.flatMap fun o => 32 :: opT o) ++ sfx (moreC m c).2 ∧ ∀ o ∈ (moreC m c).1, okN o.x
  | 0, c, h => ⟨rfl, fun _ h => by cases h⟩
  | m + 1, c, h => by
    by_cases hs : seesC c 32 = true
    · have e1 : (moreC (m + 1) c) = (opV (takeC c 32) :: (moreC m (opC (takeC c 32))).1, (moreC m (opC (takeC c 32))).2) := by rw [moreC, if_pos hs]
      rw [e1] at h ⊢
      have h2 := more_e0 h
      obtain ⟨k1, k2⟩ := more_eat (m := m) h
      obtain ⟨k3, k4⟩ := op_eat h2
      refine ⟨?_, ?_⟩
      · rw [take_eat hs, ← take_yes hs, k3, k1]
        simp
      · intro o ho
        rcases List.mem_cons.1 ho with rfl | ho
        · exact k4
        · exact k2 o ho
    · have e1 : (moreC (m + 1) c) = ([], c) := by rw [moreC, if_neg hs]
      rw [e1]
      exact ⟨rfl, fun _ h => by cases h⟩
theorem line_eat {c : Cur} (h : (lineC c).e = 0) : sfx c = lnT (lineV c) ++ 10 :: sfx (lineC c) ∧ c.e = 0 ∧ ∀ o ∈ lineV c, okN o.x := by
  by_cases hs : seesC c 10 = true
  · have e1 : lineV c = [] := by rw [lineV, if_pos hs]
    have e2 : lineC c = { c with at' := c.at' + 1 } := by rw [lineC, if_pos hs, take_yes hs]
    rw [e1, e2]
    exact ⟨take_eat hs, (sees_lt hs).1, fun _ h => by cases h⟩
  · have e1 : lineV c = opV c :: (moreC c.s.length (opC c)).1 := by rw [lineV, if_neg hs]
    have e2 : lineC c = mustC (moreC c.s.length (opC c)).2 10 := by rw [lineC, if_neg hs]
    rw [e2] at h
    rw [e1, e2]
    obtain ⟨k1, k2⟩ := must_eat h
    obtain ⟨k3, k4⟩ := more_eat k2
    have k5 := more_e0 k2
    obtain ⟨k6, k7⟩ := op_eat k5
    refine ⟨?_, (op_right k5).2.2, ?_⟩
    · rw [k6, k3, k1]
      simp [lnT]
    · intro o ho
      rcases List.mem_cons.1 ho with rfl | ho
      · exact k7
      · exact k4 o ho
theorem text_e0 : ∀ {m : Nat} {c : Cur}, (textC m c).2.e = 0 → c.e = 0
  | 0, c, h => h
  | m + 1, c, h => by
    unfold textC at h
    split at h
    · rename_i hs; exact hs.1
    · exact h
theorem text_eat : ∀ {m : Nat} {c : Cur}, (textC m c).2.e = 0 → (sfx c).length ≤ m → sfx c = txT (textC m c).1 ∧ ∀ o ∈ (textC m c).1.flatten, okN o.x
  | 0, c, h, hl => by
    refine ⟨?_, fun _ h => by cases h⟩
    exact List.eq_nil_of_length_eq_zero (by omega)
  | m + 1, c, h, hl => by
    by_cases hs : c.e = 0 ∧ c.at' < c.s.length
    · have e1 : textC (m + 1) c = (lineV c :: (textC m (lineC c)).1, (textC m (lineC c)).2) := by rw [textC, if_pos hs]
      rw [e1] at h ⊢
      have h2 := text_e0 h
      obtain ⟨k1, -, k2⟩ := line_eat h2
      have hl2 : (sfx (lineC c)).length ≤ m := by
        have := congrArg List.length k1
        rw [List.length_append, List.length_cons] at this
        omega
      obtain ⟨k3, k4⟩ := text_eat h hl2
      refine ⟨?_, ?_⟩
      · rw [k1, k3]
        simp [txT]
      · intro o ho
        rw [List.flatten_cons, List.mem_append] at ho
        rcases ho with ho | ho
        · exact k2 o ho
        · exact k4 o ho
    · have e1 : textC (m + 1) c = ([], c) := by rw [textC, if_neg hs]
      rw [e1] at h ⊢
      refine ⟨?_, fun _ h => by cases h⟩
      have : ¬ c.at' < c.s.length := fun hh => hs ⟨h, hh⟩
      unfold sfx
      rw [List.drop_of_length_le (by omega)]
      rfl
theorem read_back {s : List UInt8} (h : rdE s = 0) : txT (rdH s) = s ∧ ∀ o ∈ (rdH s).flatten, okN o.x := by
  have h' : (readT s).2.e = 0 := h
  obtain ⟨k1, k2⟩ := text_eat (m := s.length) (c := ⟨s, 0, 0, 0⟩) h' (Nat.le_refl _)
  have e1 : rdH s = (readT s).1 := by rw [rdH, if_pos h']
  rw [e1]
  exact ⟨k1.symm, k2⟩
end Go.AM

set_option linter.unusedVariables false
set_option linter.unusedSimpArgs false
namespace Go.AM
open Go.Lib
attribute [-simp] List.length_flatten List.map_flatten List.map_take List.map_map List.flatten_append
/-! A text that is shown is read as it was. -/
theorem sfx_adv {c : Cur} {u t : List UInt8} (h : sfx c = u ++ t) : sfx { c with at' := c.at' + u.length } = t := by
  unfold sfx at h ⊢
  show c.s.drop (c.at' + u.length) = t
  rw [← List.drop_drop, h, List.drop_left]
theorem sfx_one {c : Cur} {b : UInt8} {t : List UInt8} (h : sfx c = b :: t) : sfx { c with at' := c.at' + 1 } = t := sfx_adv (u := [b]) h
theorem sees_one {c : Cur} {b : UInt8} {t : List UInt8} (h : sfx c = b :: t) (he : c.e = 0) : seesC c b = true := by
  rw [sees_sfx h, he]; simp
theorem sees_not {c : Cur} {b x : UInt8} {t : List UInt8} (h : sfx c = x :: t) (hx : x ≠ b) : ¬ seesC c b = true := by
  rw [sees_sfx h]; simp [hx]
theorem must_fwd {c : Cur} {b : UInt8} {t : List UInt8} (h : sfx c = b :: t) (he : c.e = 0) : mustC c b = { c with at' := c.at' + 1 } := must_yes (sees_one h he)
theorem tw_app2 {p : UInt8 → Bool} : ∀ {v r : List UInt8}, v.all p = true → (v ++ r).takeWhile p = v ++ r.takeWhile p
  | [], _, _ => rfl
  | a :: v, r, h => by
    simp only [List.all_cons, Bool.and_eq_true] at h
    rw [List.cons_append, List.takeWhile_cons_of_pos h.1, tw_app2 h.2, List.cons_append]
theorem name_fwd {c : Cur} {v t : List UInt8} (h : sfx c = v ++ 61 :: t) (he : c.e = 0) (hv : nameB v = true) : nameN c = v.length ∧ nameC c = { c with at' := c.at' + v.length } ∧ (c.s.drop c.at').take (nameN c) = v := by
  simp only [nameB, Bool.and_eq_true, decide_eq_true_eq] at hv
  obtain ⟨⟨h1, h2⟩, h3⟩ := hv
  have e1 : nameN c = v.length := by
    have h' : c.s.drop c.at' = v ++ 61 :: t := h
    rw [nameN, if_pos he, h', tw_app2 h3, List.takeWhile_cons_of_neg (by decide), List.append_nil]
    omega
  refine ⟨e1, ?_, ?_⟩
  · rw [nameC, e1, if_neg (by omega)]
  · have h' : c.s.drop c.at' = v ++ 61 :: t := h
    rw [e1, h', List.take_left]
theorem number_fwd {c : Cur} {q : Int} {t : List UInt8} (h : sfx c = itoa q ++ t) (he : c.e = 0) (hq : okN q) (ht : t.takeWhile dig = []) : numberC c = { c with at' := c.at' + (itoa q).length } ∧ numberV c = q := by
  obtain ⟨x, r, hx⟩ : ∃ x r, sfx c = x :: r := by
    have := itoa_ne q
    cases hh : itoa q with
    | nil => rw [hh] at this; simp at this
    | cons x r => exact ⟨x, r ++ t, by rw [h, hh]; rfl⟩
  have e1 : (spanI c.s c.at').toNat = (itoa q).length := by rw [span_sfx hx, h, span_itoa q t ht]
  have e2 : numT c = itoa q := by
    have h' : c.s.drop c.at' = itoa q ++ t := h
    rw [numT, e1, h', List.take_left]
  have e3 : (getS (numT c)).2 = 0 := by rw [e2, get_itoa hq]
  refine ⟨?_, ?_⟩
  · rw [numberC, if_pos he, if_pos e3, e1]
  · rw [numberV, if_pos he, if_pos e3, e2, get_itoa hq]
theorem op_fwd {c : Cur} {o : Op} {t : List UInt8} (h : sfx c = opT o ++ t) (he : c.e = 0) (hn : c.ops ≠ 4096) (hv : nameB o.v = true) (hq : okN o.x) (ht : t.takeWhile dig = []) :
    opV c = o ∧ sfx (opC c) = t ∧ (opC c).e = 0 ∧ (opC c).s = c.s ∧ (opC c).ops = c.ops + 1 := by
  have hsm : op1 c = c := by rw [op1, if_neg (fun hh => hn hh.1)]
  obtain ⟨w, v, q⟩ := o
  have h0 : sfx c = (if w then 119 else 114) :: 58 :: (v ++ 61 :: (itoa q ++ t)) := by
    rw [h, opT]
    cases w <;> simp
  -- the kind
  have k3 : seesC c 119 = w ∧ op3 c = { c with at' := c.at' + 1 } := by
    cases w with
    | true =>
      have hs := sees_one (b := 119) h0 he
      exact ⟨hs, by rw [op3, op2, hsm, if_pos hs, take_yes hs]⟩
    | false =>
      have hs := sees_not (b := 119) h0 (by decide)
      refine ⟨by simpa using hs, ?_⟩
      rw [op3, op2, hsm, if_neg hs, take_no hs]
      exact must_fwd h0 he
  obtain ⟨kw, k3⟩ := k3
  have s3 : sfx (op3 c) = 58 :: (v ++ 61 :: (itoa q ++ t)) := by rw [k3]; exact sfx_one h0
  have e3 : (op3 c).e = 0 := by rw [k3]; exact he
  have k4 : op4 c = { op3 c with at' := (op3 c).at' + 1 } := must_fwd s3 e3
  have s4 : sfx (op4 c) = v ++ 61 :: (itoa q ++ t) := by rw [k4]; exact sfx_one s3
  have e4 : (op4 c).e = 0 := by rw [k4]; exact e3
  obtain ⟨n1, k5, n3⟩ := name_fwd s4 e4 hv
  have k5' : op5 c = { op4 c with at' := (op4 c).at' + v.length } := k5
  have s5 : sfx (op5 c) = 61 :: (itoa q ++ t) := by rw [k5']; exact sfx_adv s4
  have e5 : (op5 c).e = 0 := by rw [k5']; exact e4
  have k6 : op6 c = { op5 c with at' := (op5 c).at' + 1 } := must_fwd s5 e5
  have s6 : sfx (op6 c) = itoa q ++ t := by rw [k6]; exact sfx_one s5
  have e6 : (op6 c).e = 0 := by rw [k6]; exact e5
  obtain ⟨k7, n7⟩ := number_fwd s6 e6 hq ht
  have k7' : op7 c = { op6 c with at' := (op6 c).at' + (itoa q).length } := k7
  have s7 : sfx (op7 c) = t := by rw [k7']; exact sfx_adv s6
  refine ⟨?_, s7, ?_, (op_cs c).1, (op_cs c).2⟩
  · show (⟨seesC (op1 c) 119, ((op4 c).s.drop (op4 c).at').take (nameN (op4 c)), numberV (op6 c)⟩ : Op) = _
    rw [hsm, kw, n3, n7]
  · show (op7 c).e = 0
    rw [k7']; exact e6
theorem op_head (o : Op) : ∃ x t, opT o = x :: t ∧ x ≠ 10 := by
  unfold opT
  cases o.w
  · exact ⟨114, _, rfl, by decide⟩
  · exact ⟨119, _, rfl, by decide⟩
def okR (o : Op) : Prop := nameB o.v = true ∧ okN o.x
theorem tail_dig (l : List Op) (t : List UInt8) : ((l.flatMap fun o => 32 :: opT o) ++ 10 :: t).takeWhile dig = [] := by
  cases l with
  | nil => exact List.takeWhile_cons_of_neg (by decide)
  | cons a r => exact List.takeWhile_cons_of_neg (by decide)
theorem more_fwd : ∀ (l : List Op) (m : Nat) (c : Cur) (t : List UInt8), sfx c = (l.flatMap fun o => 32 :: opT o) ++ 10 :: t → c.e = 0 → c.ops + l.length ≤ 4096 → (∀ o ∈ l, okR o) → l.length ≤ m →
    (moreC m c).1 = l ∧ sfx (moreC m c).2 = 10 :: t ∧ (moreC m c).2.e = 0 ∧ (moreC m c).2.s = c.s ∧ (moreC m c).2.ops = c.ops + l.length
  | [], 0, c, t, h, he, _, _, _ => ⟨rfl, h, he, rfl, rfl⟩
  | [], m + 1, c, t, h, he, _, _, _ => by
    have hs : ¬ seesC c 32 = true := sees_not (t := t) h (by decide)
    have e1 : moreC (m + 1) c = ([], c) := by rw [moreC, if_neg hs]
    rw [e1]
    exact ⟨rfl, h, he, rfl, rfl⟩
  | a :: r, 0, c, t, _, _, _, _, hm => by simp at hm
  | a :: r, m + 1, c, t, h, he, hn, ho, hm => by
    have h1 : sfx c = 32 :: (opT a ++ ((r.flatMap fun o => 32 :: opT o) ++ 10 :: t)) := by rw [h]; simp
    have hs := sees_one h1 he
    have ht := take_yes hs
    have s2 : sfx (takeC c 32) = opT a ++ ((r.flatMap fun o => 32 :: opT o) ++ 10 :: t) := by rw [ht]; exact sfx_one h1
    have e2 : (takeC c 32).e = 0 := by rw [ht]; exact he
    have o2 : (takeC c 32).ops = c.ops := by rw [ht]
    have z2 : (takeC c 32).s = c.s := by rw [ht]
    rw [List.length_cons] at hn hm
    obtain ⟨k1, k2, k3, k4, k5⟩ := op_fwd s2 e2 (by omega) (ho a (by simp)).1 (ho a (by simp)).2 (tail_dig r t)
    obtain ⟨m1, m2, m3, m4, m5⟩ := more_fwd r m (opC (takeC c 32)) t k2 k3 (by omega) (fun o h => ho o (by simp [h])) (by omega)
    have e1 : (moreC (m + 1) c) = (opV (takeC c 32) :: (moreC m (opC (takeC c 32))).1, (moreC m (opC (takeC c 32))).2) := by rw [moreC, if_pos hs]
    rw [e1]
    refine ⟨by rw [k1, m1], m2, m3, by rw [m4, k4, z2], by rw [m5, k5, o2, List.length_cons]; omega⟩
theorem fl_len (l : List Op) : l.length ≤ (l.flatMap fun o => 32 :: opT o).length := by
  induction l with
  | nil => simp
  | cons a r ih => rw [List.flatMap_cons, List.length_append, List.length_cons, List.length_cons]; omega
theorem line_fwd {l : List Op} {c : Cur} {t : List UInt8} (h : sfx c = lnT l ++ 10 :: t) (he : c.e = 0) (hn : c.ops + l.length ≤ 4096) (ho : ∀ o ∈ l, okR o) :
    lineV c = l ∧ sfx (lineC c) = t ∧ (lineC c).e = 0 ∧ (lineC c).s = c.s ∧ (lineC c).ops = c.ops + l.length := by
  cases l with
  | nil =>
    have h' : sfx c = 10 :: t := h
    have hs := sees_one h' he
    have e1 : lineV c = [] := by rw [lineV, if_pos hs]
    have e2 : lineC c = { c with at' := c.at' + 1 } := by rw [lineC, if_pos hs, take_yes hs]
    rw [e1, e2]
    exact ⟨rfl, sfx_one h', he, rfl, rfl⟩
  | cons a r =>
    have h1 : sfx c = opT a ++ ((r.flatMap fun o => 32 :: opT o) ++ 10 :: t) := by rw [h, lnT]; simp
    obtain ⟨x, y, hx, h10⟩ := op_head a
    have hs : ¬ seesC c 10 = true := sees_not (x := x) (t := y ++ ((r.flatMap fun o => 32 :: opT o) ++ 10 :: t)) (by rw [h1, hx]; rfl) h10
    rw [List.length_cons] at hn
    obtain ⟨k1, k2, k3, k4, k5⟩ := op_fwd h1 he (by omega) (ho a (by simp)).1 (ho a (by simp)).2 (tail_dig r t)
    have hml : r.length ≤ c.s.length := by
      have e1 := fl_len r
      have e2 := congrArg List.length h1
      rw [List.length_append, List.length_append] at e2
      have e3 : (sfx c).length ≤ c.s.length := by unfold sfx; rw [List.length_drop]; omega
      omega
    obtain ⟨m1, m2, m3, m4, m5⟩ := more_fwd r c.s.length (opC c) t k2 k3 (by omega) (fun o h => ho o (by simp [h])) hml
    have e1 : lineV c = opV c :: (moreC c.s.length (opC c)).1 := by rw [lineV, if_neg hs]
    have e2 : lineC c = mustC (moreC c.s.length (opC c)).2 10 := by rw [lineC, if_neg hs]
    have e3 := must_fwd m2 m3
    rw [e1, e2, e3]
    refine ⟨by rw [k1, m1], sfx_one m2, m3, by show (moreC c.s.length (opC c)).2.s = c.s; rw [m4, k4], by show (moreC c.s.length (opC c)).2.ops = _; rw [m5, k5, List.length_cons]; omega⟩
theorem text_fwd : ∀ (h : List (List Op)) (m : Nat) (c : Cur), sfx c = txT h → c.e = 0 → c.ops + h.flatten.length ≤ 4096 → (∀ o ∈ h.flatten, okR o) → h.length ≤ m → (textC m c).1 = h ∧ (textC m c).2.e = 0
  | [], 0, c, _, he, _, _, _ => ⟨rfl, he⟩
  | [], m + 1, c, h, he, _, _, _ => by
    have hs : ¬ (c.e = 0 ∧ c.at' < c.s.length) := fun hh => by
      have e1 : (sfx c).length = 0 := by rw [h]; rfl
      unfold sfx at e1
      rw [List.length_drop] at e1
      omega
    have e1 : textC (m + 1) c = ([], c) := by rw [textC, if_neg hs]
    rw [e1]
    exact ⟨rfl, he⟩
  | l :: r, 0, c, _, _, _, _, hm => by simp at hm
  | l :: r, m + 1, c, h, he, hn, ho, hm => by
    have h1 : sfx c = lnT l ++ 10 :: txT r := by rw [h]; simp [txT]
    have hs : c.e = 0 ∧ c.at' < c.s.length := ⟨he, by
      have e1 := congrArg List.length h1
      rw [List.length_append, List.length_cons] at e1
      unfold sfx at e1
      rw [List.length_drop] at e1
      omega⟩
    rw [List.flatten_cons, List.length_append] at hn
    obtain ⟨k1, k2, k3, k4, k5⟩ := line_fwd h1 he (by omega) (fun o h => ho o (by rw [List.flatten_cons]; simp [h]))
    obtain ⟨m1, m2⟩ := text_fwd r m (lineC c) k2 k3 (by omega) (fun o h => ho o (by rw [List.flatten_cons]; simp [h])) (by rw [List.length_cons] at hm; omega)
    have e1 : textC (m + 1) c = (lineV c :: (textC m (lineC c)).1, (textC m (lineC c)).2) := by rw [textC, if_pos hs]
    rw [e1]
    exact ⟨by rw [k1, m1], m2⟩
theorem tx_rows : ∀ h : List (List Op), h.length ≤ (txT h).length
  | [] => by simp
  | l :: r => by
    have := tx_rows r
    have e : txT (l :: r) = lnT l ++ [10] ++ txT r := by simp [txT]
    rw [e, List.length_append, List.length_append, List.length_cons]
    simp only [List.length_cons, List.length_nil]
    omega
theorem show_back {h : List (List Op)} (hr : rightB h = true) (hx : ∀ o ∈ h.flatten, okN o.x) : rdE (txT h) = 0 ∧ rdH (txT h) = h := by
  simp only [rightB, Bool.and_eq_true, decide_eq_true_eq, List.all_eq_true] at hr
  obtain ⟨h1, h2⟩ := text_fwd h (txT h).length ⟨txT h, 0, 0, 0⟩ rfl rfl (by show 0 + _ ≤ _; omega) (fun o ho => ⟨hr.1 o ho, hx o ho⟩) (tx_rows h)
  have e0 : rdE (txT h) = 0 := h2
  refine ⟨e0, ?_⟩
  have e1 : (readT (txT h)).2.e = 0 := h2
  rw [rdH, if_pos e1]
  exact h1
end Go.AM

set_option linter.unusedVariables false
set_option linter.unusedSimpArgs false
namespace Go.AM
open Go.Lib
attribute [-simp] List.length_flatten List.map_flatten List.map_take List.map_map List.flatten_append
theorem rd_okx {s : List UInt8} (hs : s.length ≤ 1000000) : okHx (rdH s) := by
  refine ⟨rd_hb hs, fun o ho => ?_⟩
  by_cases he : rdE s = 0
  · have h1 := (read_back he).2 o ho
    have h2 : (readT s).2.e = 0 := he
    have h3 := (read_right (s := s) (by omega) h2).1
    have e1 : rdH s = (readT s).1 := by rw [rdH, if_pos h2]
    rw [← e1] at h3
    simp only [rightB, Bool.and_eq_true, List.all_eq_true] at h3
    have h4 := h3.1 o ho
    simp only [nameB, Bool.and_eq_true, decide_eq_true_eq] at h4
    exact ⟨by omega, h1⟩
  · have he' : ¬ (readT s).2.e = 0 := he
    have e1 : rdH s = [] := by rw [rdH, if_neg he']
    rw [e1] at ho
    cases ho
theorem rd_show {s : List UInt8} (hs : s.length ≤ 1000000) : ∃ u : List UInt8, showV (rdH s) = .tup [.str u, .int .i64 0] ∧ (rdE s = 0 → u = s) := by
  by_cases he : rdE s = 0
  · have h2 : (readT s).2.e = 0 := he
    have h3 := (read_right (s := s) (by omega) h2).1
    have e1 : rdH s = (readT s).1 := by rw [rdH, if_pos h2]
    rw [← e1] at h3
    exact ⟨_, show_t h3, fun _ => (read_back he).1⟩
  · have he' : ¬ (readT s).2.e = 0 := he
    have e1 : rdH s = [] := by rw [rdH, if_neg he']
    rw [e1]
    exact ⟨_, show_t rfl, fun h => absurd h he⟩
theorem pc_read {s : List UInt8} {v : V} (hs : s.length ≤ 1048576) (hv : readV s = v) : PCon T0 n.ref07_Text [.str s] true True v := ⟨fun _ => by
  have := (ref07_Text s).con hs
  rwa [hv] at this⟩
theorem tx_small {h : List (List Op)} (ok : okHx h) (hr : rightB h = true) (h1 : h.length ≤ 60) (h2 : h.flatten.length ≤ 60) : (txT h).length ≤ 1048576 := by
  obtain ⟨r1, r2⟩ := right_ops ok hr
  have := tx_len h (fun l hl o ho => r2 o (List.mem_flatten.2 ⟨l, hl, ho⟩))
  omega
set_option maxHeartbeats 4000000 in
instance showBack (h : List (List Op)) (s : List UInt8) : PCon T0 n.law08_ShowBack [eH h, .str s] false (okHx h ∧ s.length ≤ 1048576) (.bool true) := ⟨fun ⟨ok, hs⟩ => by
  have b := ok.1
  have hrb : hb h ∧ ∀ o ∈ h.flatten, o.v.length ≤ 1048576 := ⟨ok.1, fun o ho => (ok.2 o ho).1⟩
  by_cases hg : smallB h 60 = true ∧ s.length ≤ 1000
  · obtain ⟨hm, hs2⟩ := hg
    obtain ⟨m1, m2, m3⟩ := small_max (m := 60) hm
    have c1 : PCon T0 n.ref06_Small [eH h, .int .i64 60] false True (.bool true) := ⟨fun _ => by
      have := (ref06_Small h 60).con b
      rwa [hm] at this⟩
    obtain ⟨u, hu1, hu2⟩ := rd_show (s := s) (by omega)
    have c5 := pc_read (s := s) (by omega) (readV_eq s)
    have c6 := pc_show (rd_okx (s := s) (by omega)) hu1
    have hbs : hb (rdH s) := rd_hb (by omega)
    generalize rdH s = k at c5 c6 hbs
    generalize hf : rdE s = f at c5 hu2
    generalize rdI s = q at c5
    have hfin : (!decide (f = 0) || decide (u = s)) = true := by
      by_cases h0 : f = 0
      · rw [hu2 h0]; simp
      · simp [h0]
    cases hr : rightB h with
    | true =>
      have d1 := pc_show ok (show_t hr)
      obtain ⟨r1, r2⟩ := show_back hr (fun o ho => (ok.2 o ho).2)
      have hl := tx_small ok hr m1 m2
      have c3 : PCon T0 n.ref07_Text [.str (txT h)] true True (.tup [eH h, .int .i64 (rdI (txT h) : Nat), .int .i64 0]) := pc_read hl (by rw [readV_eq, r1, r2])
      generalize rdI (txT h) = q2 at c3
      have c2 : PCon T0 n.ref06_Right [eH h] false True (.bool true) := ⟨fun _ => by
        have := (ref06_Right h).con hrb
        rwa [hr] at this⟩
      have c4 : PCon T0 n.ref06_Same [eH h, eH h] false True (.bool true) := ⟨fun _ => by
        have := (ref06_Same h h).con b
        rwa [decide_eq_true rfl] at this⟩
      generalize txT h = t at c3 d1
      refine pc tabOk ?_
      repeat' first | (apply dr_fin; (focus exact xx)) | (apply dr_gt; (focus exact xx)) | (apply dr_gf; (focus exact xx); (focus first | exact .inl rfl | exact .inr rfl); focus (first | exact InD.no | (apply InD.so; (focus exact xx)))) | (apply dr_v; focus (apply DV.mk; (focus exact RF.mk rfl); (focus exact RF.mk rfl); (focus exact RF.mk rfl); (focus exact RF.mk rfl); (focus exact xx); focus (first | exact InD.no | (apply InD.so; (focus exact xx))))) | (apply dr_ve; focus (apply DVE.mk; (focus exact RF.mk rfl); (focus exact RF.mk rfl); (focus exact RF.mk rfl); (focus exact xx); focus (first | exact InD.no | (apply InD.so; (focus exact xx))))) | (apply dr_r; focus (apply DL.mk; (focus exact RF.mk rfl); (focus exact xx); (focus exact xx); focus (first | exact InD.no | (apply InD.so; (focus exact xx))))) | (apply dr_l; (focus exact RF.mk rfl); (focus exact RF.mk rfl); (focus exact RF.mk rfl); (focus exact RF.mk rfl); (focus exact RF.mk rfl)) | (apply dr_e; (focus exact RF.mk rfl); (focus exact RF.mk rfl); (focus exact RF.mk rfl); (focus exact RF.mk rfl)) | (apply rd_e; (focus exact xx); focus (repeat first | exact PO.nil | apply PO.zero | (apply PO.ld; (focus exact xx)))) | (apply rd_l; (focus exact xx)) | refine wh_seq ?_ | refine wh_skip ?_ | refine wh_block ?_ | refine wh_end ?_ | refine wh_exit ?_ | refine wh_ret ?_ | refine bk_norm ?_ | refine bk_exit ?_ | refine bk_ret ?_ | refine fr_exit ?_ | refine fr_ret ?_ | refine lp_exit ?_ | refine lp_ret ?_ | refine jn_exit ?_ | refine jn_ret ?_ | refine bk_other rfl ?_ | (apply wr; focus exact xx) | (apply wi; (focus exact xx); (focus exact xx); all_goals intro _; all_goals try first | contradiction | (exfalso; omega) | exact absurd trivial ‹_›) | refine wh_reg ?_ | refine wh_ife ?_ | (apply re; focus exact xx) | (apply rf; (focus exact xx); (focus exact xx); all_goals intro _; all_goals try first | contradiction | (exfalso; omega) | exact absurd trivial ‹_›) | (apply ra; (focus exact xx); (focus exact xx); intro _) | (apply r1; (focus exact xx); (focus exact xx); intro _) | (apply rl; (focus exact xx); (focus exact xx); intro _) | (apply rb; (focus exact xx); (focus exact xx); intro _) | (apply rsi; (focus exact xx); (focus exact xx); all_goals try infer_instance) | (apply rsz; (focus exact xx); (focus exact xx); all_goals try infer_instance) | (apply rt; (focus exact xx); (focus exact xx)) | (apply rso; (focus exact xx); (focus exact xx); all_goals try infer_instance) | (apply rmm; (focus exact xx); intro _) | (apply rsb; (focus exact xx); (focus exact xx)) | (apply ru; (focus exact xx); (focus exact xx)) | (apply rm; (focus exact xx); (focus exact xx); intro _) | (apply rk; (focus exact xx); (focus exact xx); intro _) | (apply rcf; (focus exact xx); (focus (apply ACF.mk; (focus exact xx); (focus exact inferInstance); (focus exact xx); (focus exact inferInstance); (focus exact xx); (focus exact rfl)))) | (apply rco; (focus exact xx); (focus (apply ACO.mk; (focus exact xx); (focus exact xx); (focus exact inferInstance); (focus exact xx); (focus exact xx))); intro _) | (apply rc; (focus exact xx); (focus exact xx)) | (apply rk'; (focus exact xx); (focus exact xx))
      · exact fz rfl
      · refine fz ?_
        exact congrArg V.bool (by simpa using hfin)
    | false =>
      have d1 := pc_show ok (show_f hr)
      have c3 : PCon T0 n.ref07_Text [.str []] true True (.tup [eH [], .int .i64 0, .int .i64 0]) := pc_read (by simp) rfl
      have c2 : PCon T0 n.ref06_Right [eH h] false True (.bool false) := ⟨fun _ => by
        have := (ref06_Right h).con hrb
        rwa [hr] at this⟩
      refine pc tabOk ?_
      repeat' first | (apply dr_fin; (focus exact xx)) | (apply dr_gt; (focus exact xx)) | (apply dr_gf; (focus exact xx); (focus first | exact .inl rfl | exact .inr rfl); focus (first | exact InD.no | (apply InD.so; (focus exact xx)))) | (apply dr_v; focus (apply DV.mk; (focus exact RF.mk rfl); (focus exact RF.mk rfl); (focus exact RF.mk rfl); (focus exact RF.mk rfl); (focus exact xx); focus (first | exact InD.no | (apply InD.so; (focus exact xx))))) | (apply dr_ve; focus (apply DVE.mk; (focus exact RF.mk rfl); (focus exact RF.mk rfl); (focus exact RF.mk rfl); (focus exact xx); focus (first | exact InD.no | (apply InD.so; (focus exact xx))))) | (apply dr_r; focus (apply DL.mk; (focus exact RF.mk rfl); (focus exact xx); (focus exact xx); focus (first | exact InD.no | (apply InD.so; (focus exact xx))))) | (apply dr_l; (focus exact RF.mk rfl); (focus exact RF.mk rfl); (focus exact RF.mk rfl); (focus exact RF.mk rfl); (focus exact RF.mk rfl)) | (apply dr_e; (focus exact RF.mk rfl); (focus exact RF.mk rfl); (focus exact RF.mk rfl); (focus exact RF.mk rfl)) | (apply rd_e; (focus exact xx); focus (repeat first | exact PO.nil | apply PO.zero | (apply PO.ld; (focus exact xx)))) | (apply rd_l; (focus exact xx)) | refine wh_seq ?_ | refine wh_skip ?_ | refine wh_block ?_ | refine wh_end ?_ | refine wh_exit ?_ | refine wh_ret ?_ | refine bk_norm ?_ | refine bk_exit ?_ | refine bk_ret ?_ | refine fr_exit ?_ | refine fr_ret ?_ | refine lp_exit ?_ | refine lp_ret ?_ | refine jn_exit ?_ | refine jn_ret ?_ | refine bk_other rfl ?_ | (apply wr; focus exact xx) | (apply wi; (focus exact xx); (focus exact xx); all_goals intro _; all_goals try first | contradiction | (exfalso; omega) | exact absurd trivial ‹_›) | refine wh_reg ?_ | refine wh_ife ?_ | (apply re; focus exact xx) | (apply rf; (focus exact xx); (focus exact xx); all_goals intro _; all_goals try first | contradiction | (exfalso; omega) | exact absurd trivial ‹_›) | (apply ra; (focus exact xx); (focus exact xx); intro _) | (apply r1; (focus exact xx); (focus exact xx); intro _) | (apply rl; (focus exact xx); (focus exact xx); intro _) | (apply rb; (focus exact xx); (focus exact xx); intro _) | (apply rsi; (focus exact xx); (focus exact xx); all_goals try infer_instance) | (apply rsz; (focus exact xx); (focus exact xx); all_goals try infer_instance) | (apply rt; (focus exact xx); (focus exact xx)) | (apply rso; (focus exact xx); (focus exact xx); all_goals try infer_instance) | (apply rmm; (focus exact xx); intro _) | (apply rsb; (focus exact xx); (focus exact xx)) | (apply ru; (focus exact xx); (focus exact xx)) | (apply rm; (focus exact xx); (focus exact xx); intro _) | (apply rk; (focus exact xx); (focus exact xx); intro _) | (apply rcf; (focus exact xx); (focus (apply ACF.mk; (focus exact xx); (focus exact inferInstance); (focus exact xx); (focus exact inferInstance); (focus exact xx); (focus exact rfl)))) | (apply rco; (focus exact xx); (focus (apply ACO.mk; (focus exact xx); (focus exact xx); (focus exact inferInstance); (focus exact xx); (focus exact xx))); intro _) | (apply rc; (focus exact xx); (focus exact xx)) | (apply rk'; (focus exact xx); (focus exact xx))
      · exact fz rfl
      · refine fz ?_
        exact congrArg V.bool (by simpa using hfin)
  · have na : smallB h 60 = true → ¬ s.length ≤ 1000 := fun h1 h2 => hg ⟨h1, h2⟩
    refine pc tabOk ?_
    repeat' first | (apply dr_fin; (focus exact xx)) | (apply dr_gt; (focus exact xx)) | (apply dr_gf; (focus exact xx); (focus first | exact .inl rfl | exact .inr rfl); focus (first | exact InD.no | (apply InD.so; (focus exact xx)))) | (apply dr_v; focus (apply DV.mk; (focus exact RF.mk rfl); (focus exact RF.mk rfl); (focus exact RF.mk rfl); (focus exact RF.mk rfl); (focus exact xx); focus (first | exact InD.no | (apply InD.so; (focus exact xx))))) | (apply dr_ve; focus (apply DVE.mk; (focus exact RF.mk rfl); (focus exact RF.mk rfl); (focus exact RF.mk rfl); (focus exact xx); focus (first | exact InD.no | (apply InD.so; (focus exact xx))))) | (apply dr_r; focus (apply DL.mk; (focus exact RF.mk rfl); (focus exact xx); (focus exact xx); focus (first | exact InD.no | (apply InD.so; (focus exact xx))))) | (apply dr_l; (focus exact RF.mk rfl); (focus exact RF.mk rfl); (focus exact RF.mk rfl); (focus exact RF.mk rfl); (focus exact RF.mk rfl)) | (apply dr_e; (focus exact RF.mk rfl); (focus exact RF.mk rfl); (focus exact RF.mk rfl); (focus exact RF.mk rfl)) | (apply rd_e; (focus exact xx); focus (repeat first | exact PO.nil | apply PO.zero | (apply PO.ld; (focus exact xx)))) | (apply rd_l; (focus exact xx)) | refine wh_seq ?_ | refine wh_skip ?_ | refine wh_block ?_ | refine wh_end ?_ | refine wh_exit ?_ | refine wh_ret ?_ | refine bk_norm ?_ | refine bk_exit ?_ | refine bk_ret ?_ | refine fr_exit ?_ | refine fr_ret ?_ | refine lp_exit ?_ | refine lp_ret ?_ | refine jn_exit ?_ | refine jn_ret ?_ | refine bk_other rfl ?_ | (apply wr; focus exact xx) | (apply wi; (focus exact xx); (focus exact xx); all_goals intro _; all_goals try first | contradiction | (exfalso; omega) | exact absurd trivial ‹_›) | refine wh_reg ?_ | refine wh_ife ?_ | (apply re; focus exact xx) | (apply rf; (focus exact xx); (focus exact xx); all_goals intro _; all_goals try first | contradiction | (exfalso; omega) | exact absurd trivial ‹_›) | (apply ra; (focus exact xx); (focus exact xx); intro _) | (apply r1; (focus exact xx); (focus exact xx); intro _) | (apply rl; (focus exact xx); (focus exact xx); intro _) | (apply rb; (focus exact xx); (focus exact xx); intro _) | (apply rsi; (focus exact xx); (focus exact xx); all_goals try infer_instance) | (apply rsz; (focus exact xx); (focus exact xx); all_goals try infer_instance) | (apply rt; (focus exact xx); (focus exact xx)) | (apply rso; (focus exact xx); (focus exact xx); all_goals try infer_instance) | (apply rmm; (focus exact xx); intro _) | (apply rsb; (focus exact xx); (focus exact xx)) | (apply ru; (focus exact xx); (focus exact xx)) | (apply rm; (focus exact xx); (focus exact xx); intro _) | (apply rk; (focus exact xx); (focus exact xx); intro _) | (apply rcf; (focus exact xx); (focus (apply ACF.mk; (focus exact xx); (focus exact inferInstance); (focus exact xx); (focus exact inferInstance); (focus exact xx); (focus exact rfl)))) | (apply rco; (focus exact xx); (focus (apply ACO.mk; (focus exact xx); (focus exact xx); (focus exact inferInstance); (focus exact xx); (focus exact xx))); intro _) | (apply rc; (focus exact xx); (focus exact xx)) | (apply rk'; (focus exact xx); (focus exact xx))
    · exact fz rfl
    · rename_i hh
      exact (hh (by by_cases h1 : smallB h 60 = true
                    · exact .inr (by have := na h1; omega)
                    · exact .inl h1)).elim⟩
end Go.AM

set_option linter.unusedVariables false
set_option linter.unusedSimpArgs false
namespace Go.AM
open Go.RowKit Go.Deep Go.Proofs
attribute [-simp] List.length_flatten List.map_flatten List.map_take List.map_map List.flatten_append
theorem showBack_ok (h : List (List Op)) (s : List UInt8) (hb' : (fun xs => wsum (fun xs => wsum wtOp xs + 1) xs + 1) h + (fun s : List UInt8 => s.length + 1) s ≤ 1048576) (h0 : (fun xs => ∀ x ∈ xs, (fun xs => ∀ x ∈ xs, wfOp x) x) h) (h1 : (fun _ => True) s) : okHx h ∧ s.length ≤ 1048576 := by
  simp only at hb'
  exact ⟨okHx_of (by omega) h0, by omega⟩
end Go.AM

