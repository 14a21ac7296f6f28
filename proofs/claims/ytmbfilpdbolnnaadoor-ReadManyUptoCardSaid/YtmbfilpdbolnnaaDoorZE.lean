/- Part ZE of the proof. -/
import Derived.Test.YtmbfilpdbolnnaaDoorZD
import Derived.Test.YtmbfilpdbolnnaaDoorZC
set_option linter.unusedVariables false
set_option linter.unusedSimpArgs false
namespace Go.AM
attribute [-simp] List.length_flatten List.map_flatten List.map_take List.map_map List.flatten_append
/-! Texts of many operations. -/
abbrev u5 : List UInt8 := [114, 58, 120, 61, 48]
def T32 : Nat → List UInt8
  | 0 => [10]
  | j + 1 => 32 :: (u5 ++ T32 j)
def T10 : Nat → List UInt8
  | 0 => []
  | j + 1 => u5 ++ 10 :: T10 j
theorem sees_of {s : List UInt8} {a n : Nat} {x : UInt8} {t : List UInt8} (h : s.drop a = x :: t) : seesC ⟨s, a, n, 0⟩ x = true := by
  obtain ⟨h1, h2, h3⟩ := drop_cons h
  rw [sees_iff rfl]; exact ⟨h1, h2⟩
theorem sees_not {s : List UInt8} {a n : Nat} {x b : UInt8} {t : List UInt8} (h : s.drop a = x :: t) (hb : x ≠ b) : ¬ seesC ⟨s, a, n, 0⟩ b = true := by
  obtain ⟨h1, h2, h3⟩ := drop_cons h
  rw [sees_iff rfl]; intro h'; exact hb (h2.symm.trans h'.2)
theorem op_zero {s : List UInt8} {a n : Nat} {x : UInt8} {t : List UInt8} (hn : n ≠ 4096) (hx : x = 32 ∨ x = 10) (h : s.drop a = u5 ++ x :: t) : opC ⟨s, a, n, 0⟩ = ⟨s, a + 5, n + 1, 0⟩ ∧ s.drop (a + 5) = x :: t := by
  have h0 : s.drop a = 114 :: 58 :: 120 :: 61 :: 48 :: x :: t := h
  have h1 := (drop_cons h0).2.2
  have h2 := (drop_cons h1).2.2
  have h3 := (drop_cons h2).2.2
  have h4 := (drop_cons h3).2.2
  have h5 := (drop_cons h4).2.2
  have sm : small ⟨s, a, n, 0⟩ := fun h' => hn h'.1
  have s1 : seesC ⟨s, a, n, 0⟩ 119 = true ∨ seesC ⟨s, a, n, 0⟩ 114 = true := .inr (sees_of h0)
  have s2 : seesC ⟨s, a + 1, n, 0⟩ 58 = true := sees_of h1
  have s3 : nmL s (a + 2) = 1 := by
    have : s.drop (a + 2) = 120 :: 61 :: 48 :: x :: t := h2
    rw [nmL, this]; rfl
  have s4 : seesC ⟨s, a + 2 + 1, n, 0⟩ 61 = true := sees_of h3
  obtain ⟨h6, hv⟩ := op_f (c := ⟨s, a, n, 0⟩) rfl sm s1 s2 s3 (by decide) s4
  have hdig : dig x = false := by rcases hx with rfl | rfl <;> decide
  have hS : sfx ⟨s, a + 2 + 1 + 1, n, 0⟩ = 48 :: x :: t := h4
  have hsp : spanR (48 :: x :: t) = 1 := by
    have : sgn (48 :: x :: t) = 0 := by simp [sgn, List.isPrefixOf]
    rw [spanR, this, List.drop_zero, List.takeWhile_cons_of_pos (by decide), List.takeWhile_cons_of_neg (by rw [hdig]; decide)]; rfl
  have hk : spanI s ((a + 2 + 1 + 1 : Nat) : Int) = (1 : Nat) := by
    obtain ⟨k1, k2, k3⟩ := drop_cons (s := s) (a := a + 2 + 1 + 1) h4
    unfold spanI
    rw [if_neg (by omega)]
    show ((spanR (s.drop (a + 2 + 1 + 1)) : Nat) : Int) = _
    rw [show s.drop (a + 2 + 1 + 1) = 48 :: x :: t from h4, hsp]
  have hg : getS (numT ⟨s, a + 2 + 1 + 1, n, 0⟩) = (0, 0) := by
    have : numT ⟨s, a + 2 + 1 + 1, n, 0⟩ = [48] := by
      show (s.drop (a + 2 + 1 + 1)).take (spanI s ((a + 2 + 1 + 1 : Nat) : Int)).toNat = _
      rw [hk, show s.drop (a + 2 + 1 + 1) = 48 :: x :: t from h4]; rfl
    rw [this]; decide
  obtain ⟨hC, -⟩ := op_h (c := ⟨s, a, n, 0⟩) rfl h6 hg hk rfl
  exact ⟨hC, h5⟩
theorem op_many {s : List UInt8} {a : Nat} {t : List UInt8} (h : s.drop a = u5 ++ t) : opC ⟨s, a, 4096, 0⟩ = ⟨s, a, 4097, 3⟩ := by
  have h0 : s.drop a = 114 :: 58 :: 120 :: 61 :: 48 :: t := h
  exact op_large (c := ⟨s, a, 4096, 0⟩) rfl (fun hs => hs ⟨rfl, .inr (sees_of h0)⟩)
theorem T32_cons (j : Nat) : ∃ x t, T32 j = x :: t ∧ (x = 32 ∨ x = 10) := by
  cases j with
  | zero => exact ⟨_, _, rfl, .inr rfl⟩
  | succ j => exact ⟨_, _, rfl, .inl rfl⟩
theorem more_many {s : List UInt8} : ∀ (j m a n : Nat), s.drop a = T32 j → n + j ≤ 4096 → j ≤ m → (moreC m ⟨s, a, n, 0⟩).2 = ⟨s, a + 6 * j, n + j, 0⟩ ∧ s.drop (a + 6 * j) = [10]
  | 0, m, a, n, h, _, _ => by
    rw [no_more (sees_not h (by decide))]; exact ⟨rfl, h⟩
  | j + 1, 0, a, n, h, _, hm => by omega
  | j + 1, m + 1, a, n, h, hn, hm => by
    have h' : s.drop a = 32 :: (u5 ++ T32 j) := h
    have hs : seesC ⟨s, a, n, 0⟩ 32 = true := sees_of h'
    obtain ⟨x, t, hT, hx⟩ := T32_cons j
    have h1 := (drop_cons h').2.2
    obtain ⟨h2, h3⟩ := op_zero (n := n) (by omega) hx (by rw [h1, hT])
    rw [moreC, if_pos hs, take_yes hs]
    show (moreC m (opC ⟨s, a + 1, n, 0⟩)).2 = _ ∧ _
    rw [h2]
    obtain ⟨h4, h5⟩ := more_many j m (a + 1 + 5) (n + 1) (by rw [h3, hT]) (by omega) (by omega)
    rw [h4, show a + 6 * (j + 1) = a + 1 + 5 + 6 * j by omega, show n + (j + 1) = n + 1 + j by omega]
    exact ⟨rfl, h5⟩
theorem more_over {s : List UInt8} : ∀ (j m a n : Nat), s.drop a = T32 j → n ≤ 4096 → 4096 < n + j → j ≤ m → (moreC m ⟨s, a, n, 0⟩).2.e = 3 ∧ (moreC m ⟨s, a, n, 0⟩).2.at' = a + 6 * (4096 - n) + 1
  | 0, m, a, n, h, _, _, _ => by omega
  | j + 1, 0, a, n, h, _, _, hm => by omega
  | j + 1, m + 1, a, n, h, hn, hn2, hm => by
    have h' : s.drop a = 32 :: (u5 ++ T32 j) := h
    have hs : seesC ⟨s, a, n, 0⟩ 32 = true := sees_of h'
    obtain ⟨x, t, hT, hx⟩ := T32_cons j
    have h1 := (drop_cons h').2.2
    rw [moreC, if_pos hs, take_yes hs]
    show (moreC m (opC ⟨s, a + 1, n, 0⟩)).2.e = _ ∧ (moreC m (opC ⟨s, a + 1, n, 0⟩)).2.at' = _
    by_cases h0 : n = 4096
    · subst h0
      rw [op_many h1, stuck_more (by simp)]
      exact ⟨rfl, rfl⟩
    · obtain ⟨h2, h3⟩ := op_zero (n := n) h0 hx (by rw [h1, hT])
      rw [h2]
      obtain ⟨h4, h5⟩ := more_over j m (a + 1 + 5) (n + 1) (by rw [h3, hT]) (by omega) (by omega) (by omega)
      exact ⟨h4, by rw [h5]; omega⟩
theorem T32_len : ∀ j, (T32 j).length = 6 * j + 1
  | 0 => rfl
  | j + 1 => by rw [T32, List.length_cons, List.length_append, T32_len j]; simp; omega
theorem T10_len : ∀ j, (T10 j).length = 6 * j
  | 0 => rfl
  | j + 1 => by have := T10_len j; simp [T10, this]; omega
theorem read32 {j : Nat} (hj : j + 1 ≤ 4096) : (readT (u5 ++ T32 j)).2.e = 0 ∧ (readT (u5 ++ T32 j)).2.ops = j + 1 := by
  obtain ⟨s, hs⟩ : ∃ s, s = u5 ++ T32 j := ⟨_, rfl⟩
  rw [← hs]
  have hl : s.length = 6 * j + 6 := by rw [hs, List.length_append, T32_len]; simp; omega
  obtain ⟨x, t, hT, hx⟩ := T32_cons j
  have hd : s.drop 0 = u5 ++ x :: t := by rw [List.drop_zero, hs, hT]
  obtain ⟨h1, h2⟩ := op_zero (n := 0) (by decide) hx hd
  obtain ⟨h3, h4⟩ := more_many (s := s) j s.length 5 1 (by rw [show 5 = 0 + 5 from rfl, h2, hT]) (by omega) (by omega)
  have hC : lineC ⟨s, 0, 0, 0⟩ = ⟨s, 5 + 6 * j + 1, 1 + j, 0⟩ := by
    have hn : ¬ seesC ⟨s, 0, 0, 0⟩ 10 = true := sees_not (x := 114) (t := 58 :: 120 :: 61 :: 48 :: x :: t) hd (by decide)
    rw [lineC, if_neg hn, h1]
    show mustC (moreC s.length ⟨s, 5, 1, 0⟩).2 10 = _
    rw [h3, must_yes (sees_of h4)]
  have hR : (readT s).2 = ⟨s, 5 + 6 * j + 1, 1 + j, 0⟩ := by
    unfold readT
    rw [hl, textC, if_pos ⟨rfl, by show 0 < s.length; omega⟩]
    show (textC (6 * j + 5) (lineC ⟨s, 0, 0, 0⟩)).2 = _
    rw [hC, textC, if_neg (fun h => by have := h.2; simp only at this; omega)]
  rw [hR]
  exact ⟨rfl, by show 1 + j = j + 1; omega⟩
theorem over32 {j : Nat} (hj : 4096 < j + 1) : (readT (u5 ++ T32 j)).2.e = 3 ∧ (readT (u5 ++ T32 j)).2.at' = 24576 := by
  obtain ⟨s, hs⟩ : ∃ s, s = u5 ++ T32 j := ⟨_, rfl⟩
  rw [← hs]
  have hl : s.length = 6 * j + 6 := by rw [hs, List.length_append, T32_len]; simp; omega
  obtain ⟨x, t, hT, hx⟩ := T32_cons j
  have hd : s.drop 0 = u5 ++ x :: t := by rw [List.drop_zero, hs, hT]
  obtain ⟨h1, h2⟩ := op_zero (n := 0) (by decide) hx hd
  obtain ⟨h3, h4⟩ := more_over (s := s) j s.length 5 1 (by rw [show 5 = 0 + 5 from rfl, h2, hT]) (by omega) (by omega) (by omega)
  have hn0 : ¬ (moreC s.length ⟨s, 5, 1, 0⟩).2.e = 0 := by rw [h3]; decide
  have hC : lineC ⟨s, 0, 0, 0⟩ = (moreC s.length ⟨s, 5, 1, 0⟩).2 := by
    have hn : ¬ seesC ⟨s, 0, 0, 0⟩ 10 = true := sees_not (x := 114) (t := 58 :: 120 :: 61 :: 48 :: x :: t) hd (by decide)
    rw [lineC, if_neg hn, h1]
    exact stuck_must hn0
  have hR : (readT s).2 = (moreC s.length ⟨s, 5, 1, 0⟩).2 := by
    unfold readT
    rw [hl, textC, if_pos ⟨rfl, by show 0 < s.length; omega⟩]
    show (textC (6 * j + 5) (lineC ⟨s, 0, 0, 0⟩)).2 = _
    rw [hC, stuck_text hn0, hl]
  rw [hR]
  exact ⟨h3, h4⟩
theorem line_one {s : List UInt8} {a n : Nat} {t : List UInt8} (hn : n ≠ 4096) (h : s.drop a = u5 ++ 10 :: t) : lineC ⟨s, a, n, 0⟩ = ⟨s, a + 6, n + 1, 0⟩ ∧ s.drop (a + 6) = t := by
  obtain ⟨h1, h2⟩ := op_zero hn (.inr rfl) h
  have hn : ¬ seesC ⟨s, a, n, 0⟩ 10 = true := sees_not (x := 114) (t := 58 :: 120 :: 61 :: 48 :: 10 :: t) h (by decide)
  refine ⟨?_, (drop_cons h2).2.2⟩
  rw [lineC, if_neg hn, h1, no_more (sees_not h2 (by decide)), must_yes (sees_of h2)]
theorem text10 {s : List UInt8} : ∀ (j m a n : Nat), s.drop a = T10 j → n + j ≤ 4096 → j ≤ m → (textC m ⟨s, a, n, 0⟩).2.e = 0 ∧ (textC m ⟨s, a, n, 0⟩).2.ops = n + j
  | 0, m, a, n, h, _, _ => by
    have hl : s.length ≤ a := by
      have := congrArg List.length h
      rw [List.length_drop] at this
      simp only [T10, List.length_nil] at this
      omega
    have : textC m ⟨s, a, n, 0⟩ = ([], ⟨s, a, n, 0⟩) := by
      cases m with
      | zero => rfl
      | succ m => rw [textC, if_neg (fun h => by have := h.2; simp only at this; omega)]
    rw [this]; exact ⟨rfl, rfl⟩
  | j + 1, 0, a, n, h, _, hm => by omega
  | j + 1, m + 1, a, n, h, hn, hm => by
    have h' : s.drop a = u5 ++ 10 :: T10 j := h
    obtain ⟨h1, h2⟩ := line_one (n := n) (by omega) h'
    have hl : a < s.length := (drop_cons (x := 114) (t := 58 :: 120 :: 61 :: 48 :: 10 :: T10 j) h').1
    rw [textC, if_pos ⟨rfl, hl⟩, h1]
    obtain ⟨h3, h4⟩ := text10 j m (a + 6) (n + 1) h2 (by omega) (by omega)
    exact ⟨h3, h4.trans (by omega)⟩
theorem over10 {s : List UInt8} : ∀ (j m a n : Nat), s.drop a = T10 j → n ≤ 4096 → 4096 < n + j → j ≤ m → (textC m ⟨s, a, n, 0⟩).2.e = 3 ∧ (textC m ⟨s, a, n, 0⟩).2.at' = a + 6 * (4096 - n)
  | 0, m, a, n, h, _, _, _ => by omega
  | j + 1, 0, a, n, h, _, _, hm => by omega
  | j + 1, m + 1, a, n, h, hn, hn2, hm => by
    have h' : s.drop a = u5 ++ 10 :: T10 j := h
    have hl : a < s.length := (drop_cons (x := 114) (t := 58 :: 120 :: 61 :: 48 :: 10 :: T10 j) h').1
    rw [textC, if_pos ⟨rfl, hl⟩]
    by_cases h0 : n = 4096
    · subst h0
      have hne : ¬ seesC ⟨s, a, 4096, 0⟩ 10 = true := sees_not (x := 114) (t := 58 :: 120 :: 61 :: 48 :: 10 :: T10 j) h' (by decide)
      have hC : lineC ⟨s, a, 4096, 0⟩ = ⟨s, a, 4097, 3⟩ := by
        rw [lineC, if_neg hne, op_many h', stuck_more (by simp), stuck_must (by simp)]
      rw [hC, stuck_text (by simp)]
      exact ⟨rfl, rfl⟩
    · obtain ⟨h1, h2⟩ := line_one (n := n) h0 h'
      rw [h1]
      obtain ⟨h3, h4⟩ := over10 j m (a + 6) (n + 1) h2 (by omega) (by omega) (by omega)
      exact ⟨h3, h4.trans (by omega)⟩
/-! The text as the statement makes it. -/
def reps (x : UInt8) : Nat → List UInt8
  | 0 => []
  | n + 1 => u5 ++ x :: reps x n
theorem reps_len (x : UInt8) : ∀ n, (reps x n).length = 6 * n
  | 0 => rfl
  | n + 1 => by have := reps_len x n; simp [reps, this]; omega
theorem reps_add (x : UInt8) (b : Nat) : ∀ a, reps x a ++ reps x b = reps x (a + b)
  | 0 => by rw [Nat.zero_add]; rfl
  | a + 1 => by have := reps_add x b a; rw [show a + 1 + b = a + b + 1 by omega]; simp [reps, this]
theorem reps_snoc (x : UInt8) (n : Nat) : (reps x n ++ u5) ++ [x] = reps x (n + 1) := by
  rw [← reps_add x 1 n, List.append_assoc]; rfl
theorem cut32 : ∀ (j n : Nat), j ≤ n → (reps 32 (n + 1)).take (6 * (j + 1) - 1) ++ [10] = u5 ++ T32 j
  | 0, n, _ => rfl
  | j + 1, 0, h => by omega
  | j + 1, n + 1, h => by
    have := cut32 j n (by omega)
    rw [reps, show 6 * (j + 1 + 1) - 1 = 6 + (6 * (j + 1) - 1) by omega]
    show (u5 ++ [32] ++ reps 32 (n + 1)).take (6 + (6 * (j + 1) - 1)) ++ [10] = _
    rw [show (6 : Nat) = (u5 ++ [(32 : UInt8)]).length from rfl, List.take_length_add_append, List.append_assoc]
    show u5 ++ [32] ++ ((reps 32 (n + 1)).take (6 * (j + 1) - 1) ++ [10]) = _
    rw [this]; rfl
theorem cut10 : ∀ (j n : Nat), j ≤ n → (reps 10 (n + 1)).take (6 * (j + 1) - 1) ++ [10] = T10 (j + 1)
  | 0, n, _ => rfl
  | j + 1, 0, h => by omega
  | j + 1, n + 1, h => by
    have := cut10 j n (by omega)
    rw [reps, show 6 * (j + 1 + 1) - 1 = 6 + (6 * (j + 1) - 1) by omega]
    show (u5 ++ [10] ++ reps 10 (n + 1)).take (6 + (6 * (j + 1) - 1)) ++ [10] = _
    rw [show (6 : Nat) = (u5 ++ [(10 : UInt8)]).length from rfl, List.take_length_add_append, List.append_assoc]
    show u5 ++ [10] ++ ((reps 10 (n + 1)).take (6 * (j + 1) - 1) ++ [10]) = _
    rw [this]; rfl
/-- What is read of the text of k operations. -/
theorem many_read {x : UInt8} (hx : x = 32 ∨ x = 10) {k : Nat} (h1 : 1 ≤ k) (h2 : k ≤ 4608) (s : List UInt8) (hs : s = (reps x 4608).take (6 * k - 1) ++ [10]) : s.length = 6 * k ∧ (k ≤ 4096 → (readT s).2.e = 0 ∧ (readT s).2.ops = k) ∧ (4096 < k → (readT s).2.e = 3 ∧ (readT s).2.at' = 24576) := by
  obtain ⟨j, rfl⟩ : ∃ j, k = j + 1 := ⟨k - 1, by omega⟩
  refine ⟨by rw [hs, List.length_append, List.length_take, reps_len]; simp; omega, ?_⟩
  rcases hx with rfl | rfl
  · rw [cut32 j 4607 (by omega)] at hs
    subst hs
    exact ⟨fun h => read32 h, fun h => over32 h⟩
  · rw [cut10 j 4607 (by omega)] at hs
    have hl : s.length = 6 * (j + 1) := by rw [hs, T10_len]
    constructor
    · intro h
      have := text10 (s := s) (j + 1) s.length 0 0 (by rw [List.drop_zero, hs]) (by omega) (by omega)
      rw [Nat.zero_add] at this
      exact this
    · intro h
      exact over10 (s := s) (j + 1) s.length 0 0 (by rw [List.drop_zero, hs]) (by omega) (by omega) (by omega)
end Go.AM

set_option linter.unusedVariables false
set_option linter.unusedSimpArgs false
namespace Go.AM
attribute [-simp] List.length_flatten List.map_flatten List.map_take List.map_map List.flatten_append
theorem tmod12 (q : Int) : -12 < q.tmod 12 ∧ q.tmod 12 < 12 := by
  have h1 := Int.tmod_lt_of_pos q (b := 12) (by decide)
  have h2 := Int.lt_tmod_of_pos q (b := 12) (by decide)
  exact ⟨h2, h1⟩
set_option maxHeartbeats 4000000 in
instance readMany (q : Int) (b : Bool) : PCon T0 n.law07_ReadMany [.int .u8 q, .bool b] true True (.bool true) := ⟨fun _ => by
  obtain ⟨hr1, hr2⟩ := tmod12 q
  generalize hr : q.tmod 12 = r at *
  have hw : WR .i64 (q.tmod 12) r := ⟨by rw [hr, IntKind.wrap_i64]; omega⟩
  refine pc tabOk ?_
  repeat' first | (apply dr_fin; (focus exact xx)) | (apply dr_v; focus (apply DV.mk; (focus exact RF.mk rfl); (focus exact RF.mk rfl); (focus exact RF.mk rfl); (focus exact RF.mk rfl); (focus exact xx); focus (first | exact InD.no | (apply InD.so; (focus exact xx))))) | (apply dr_r; focus (apply DL.mk; (focus exact RF.mk rfl); (focus exact xx); (focus exact xx); focus (first | exact InD.no | (apply InD.so; (focus exact xx))))) | (apply dr_l; (focus exact RF.mk rfl); (focus exact RF.mk rfl); (focus exact RF.mk rfl); (focus exact RF.mk rfl); (focus exact RF.mk rfl)) | (apply dr_e; (focus exact RF.mk rfl); (focus exact RF.mk rfl); (focus exact RF.mk rfl); (focus exact RF.mk rfl)) | (apply rd_e; (focus exact xx); focus (repeat first | exact PO.nil | apply PO.zero | (apply PO.ld; (focus exact xx)))) | (apply rd_l; (focus exact xx)) | refine wh_seq ?_ | refine wh_skip ?_ | refine wh_block ?_ | refine wh_end ?_ | refine wh_exit ?_ | refine wh_ret ?_ | refine bk_norm ?_ | refine bk_exit ?_ | refine bk_ret ?_ | refine fr_exit ?_ | refine fr_ret ?_ | refine lp_exit ?_ | refine lp_ret ?_ | refine jn_exit ?_ | refine jn_ret ?_ | refine bk_other rfl ?_ | (apply wr; focus exact xx) | refine wh_reg ?_ | (apply re; focus exact xx) | (apply ra; (focus exact xx); (focus exact xx); intro _) | (apply r1; (focus exact xx); (focus exact xx); intro _) | (apply rl; (focus exact xx); (focus exact xx); intro _) | (apply rb; (focus exact xx); (focus exact xx); intro _) | (apply rsi; (focus exact xx); (focus exact xx); all_goals try infer_instance) | (apply rsz; (focus exact xx); (focus exact xx); all_goals try infer_instance) | (apply rt; (focus exact xx); (focus exact xx)) | (apply rso; (focus exact xx); (focus exact xx); all_goals try infer_instance) | (apply rmm; (focus exact xx); intro _) | (apply rsb; (focus exact xx); (focus exact xx)) | (apply ru; (focus exact xx); (focus exact xx)) | (apply rm; (focus exact xx); (focus exact xx); intro _) | (apply rk; (focus exact xx); (focus exact xx); intro _) | (apply rcf; (focus exact xx); (focus (apply ACF.mk; (focus exact xx); (focus exact inferInstance); (focus exact xx); (focus exact inferInstance); (focus exact xx); (focus exact rfl)))) | (apply rco; (focus exact xx); (focus (apply ACO.mk; (focus exact xx); (focus exact xx); (focus exact inferInstance); (focus exact xx); (focus exact xx))); intro _) | (apply rc; (focus exact xx); (focus exact xx)) | (apply rk'; (focus exact xx); (focus exact xx))
  refine wh_cat (fun A L => ∃ x : UInt8, (x = 32 ∨ x = 10) ∧ A = [(5, .int .i64 (4090 + r)), (6, .str [x])] ∧ L = []) ?_ ?_
  · repeat' first | (apply dr_fin; (focus exact xx)) | (apply dr_v; focus (apply DV.mk; (focus exact RF.mk rfl); (focus exact RF.mk rfl); (focus exact RF.mk rfl); (focus exact RF.mk rfl); (focus exact xx); focus (first | exact InD.no | (apply InD.so; (focus exact xx))))) | (apply dr_r; focus (apply DL.mk; (focus exact RF.mk rfl); (focus exact xx); (focus exact xx); focus (first | exact InD.no | (apply InD.so; (focus exact xx))))) | (apply dr_l; (focus exact RF.mk rfl); (focus exact RF.mk rfl); (focus exact RF.mk rfl); (focus exact RF.mk rfl); (focus exact RF.mk rfl)) | (apply dr_e; (focus exact RF.mk rfl); (focus exact RF.mk rfl); (focus exact RF.mk rfl); (focus exact RF.mk rfl)) | (apply rd_e; (focus exact xx); focus (repeat first | exact PO.nil | apply PO.zero | (apply PO.ld; (focus exact xx)))) | (apply rd_l; (focus exact xx)) | refine wh_seq ?_ | refine wh_skip ?_ | refine wh_block ?_ | refine wh_end ?_ | refine wh_exit ?_ | refine wh_ret ?_ | refine bk_norm ?_ | refine bk_exit ?_ | refine bk_ret ?_ | refine fr_exit ?_ | refine fr_ret ?_ | refine lp_exit ?_ | refine lp_ret ?_ | refine jn_exit ?_ | refine jn_ret ?_ | refine bk_other rfl ?_ | (apply wr; focus exact xx) | (apply wi; (focus exact xx); (focus exact xx); all_goals intro _; all_goals try first | contradiction | (exfalso; omega) | exact absurd trivial ‹_›) | refine wh_reg ?_ | refine wh_ife ?_ | (apply re; focus exact xx) | (apply rf; (focus exact xx); (focus exact xx); all_goals intro _; all_goals try first | contradiction | (exfalso; omega) | exact absurd trivial ‹_›) | (apply ra; (focus exact xx); (focus exact xx); intro _) | (apply r1; (focus exact xx); (focus exact xx); intro _) | (apply rl; (focus exact xx); (focus exact xx); intro _) | (apply rb; (focus exact xx); (focus exact xx); intro _) | (apply rsi; (focus exact xx); (focus exact xx); all_goals try infer_instance) | (apply rsz; (focus exact xx); (focus exact xx); all_goals try infer_instance) | (apply rt; (focus exact xx); (focus exact xx)) | (apply rso; (focus exact xx); (focus exact xx); all_goals try infer_instance) | (apply rmm; (focus exact xx); intro _) | (apply rsb; (focus exact xx); (focus exact xx)) | (apply ru; (focus exact xx); (focus exact xx)) | (apply rm; (focus exact xx); (focus exact xx); intro _) | (apply rk; (focus exact xx); (focus exact xx); intro _) | (apply rcf; (focus exact xx); (focus (apply ACF.mk; (focus exact xx); (focus exact inferInstance); (focus exact xx); (focus exact inferInstance); (focus exact xx); (focus exact rfl)))) | (apply rco; (focus exact xx); (focus (apply ACO.mk; (focus exact xx); (focus exact xx); (focus exact inferInstance); (focus exact xx); (focus exact xx))); intro _) | (apply rc; (focus exact xx); (focus exact xx)) | (apply rk'; (focus exact xx); (focus exact xx))
    · exact ⟨10, .inr rfl, rfl, rfl⟩
    · exact ⟨32, .inl rfl, rfl, rfl⟩
  rintro _ _ ⟨x, hx, rfl, rfl⟩
  repeat' first | (apply dr_fin; (focus exact xx)) | (apply dr_v; focus (apply DV.mk; (focus exact RF.mk rfl); (focus exact RF.mk rfl); (focus exact RF.mk rfl); (focus exact RF.mk rfl); (focus exact xx); focus (first | exact InD.no | (apply InD.so; (focus exact xx))))) | (apply dr_r; focus (apply DL.mk; (focus exact RF.mk rfl); (focus exact xx); (focus exact xx); focus (first | exact InD.no | (apply InD.so; (focus exact xx))))) | (apply dr_l; (focus exact RF.mk rfl); (focus exact RF.mk rfl); (focus exact RF.mk rfl); (focus exact RF.mk rfl); (focus exact RF.mk rfl)) | (apply dr_e; (focus exact RF.mk rfl); (focus exact RF.mk rfl); (focus exact RF.mk rfl); (focus exact RF.mk rfl)) | (apply rd_e; (focus exact xx); focus (repeat first | exact PO.nil | apply PO.zero | (apply PO.ld; (focus exact xx)))) | (apply rd_l; (focus exact xx)) | refine wh_seq ?_ | refine wh_skip ?_ | refine wh_block ?_ | refine wh_end ?_ | refine wh_exit ?_ | refine wh_ret ?_ | refine bk_norm ?_ | refine bk_exit ?_ | refine bk_ret ?_ | refine fr_exit ?_ | refine fr_ret ?_ | refine lp_exit ?_ | refine lp_ret ?_ | refine jn_exit ?_ | refine jn_ret ?_ | refine bk_other rfl ?_ | (apply wr; focus exact xx) | (apply wi; (focus exact xx); (focus exact xx); all_goals intro _; all_goals try first | contradiction | (exfalso; omega) | exact absurd trivial ‹_›) | refine wh_reg ?_ | refine wh_ife ?_ | (apply re; focus exact xx) | (apply rf; (focus exact xx); (focus exact xx); all_goals intro _; all_goals try first | contradiction | (exfalso; omega) | exact absurd trivial ‹_›) | (apply ra; (focus exact xx); (focus exact xx); intro _) | (apply r1; (focus exact xx); (focus exact xx); intro _) | (apply rl; (focus exact xx); (focus exact xx); intro _) | (apply rb; (focus exact xx); (focus exact xx); intro _) | (apply rsi; (focus exact xx); (focus exact xx); all_goals try infer_instance) | (apply rsz; (focus exact xx); (focus exact xx); all_goals try infer_instance) | (apply rt; (focus exact xx); (focus exact xx)) | (apply rso; (focus exact xx); (focus exact xx); all_goals try infer_instance) | (apply rmm; (focus exact xx); intro _) | (apply rsb; (focus exact xx); (focus exact xx)) | (apply ru; (focus exact xx); (focus exact xx)) | (apply rm; (focus exact xx); (focus exact xx); intro _) | (apply rk; (focus exact xx); (focus exact xx); intro _) | (apply rcf; (focus exact xx); (focus (apply ACF.mk; (focus exact xx); (focus exact inferInstance); (focus exact xx); (focus exact inferInstance); (focus exact xx); (focus exact rfl)))) | (apply rco; (focus exact xx); (focus (apply ACO.mk; (focus exact xx); (focus exact xx); (focus exact inferInstance); (focus exact xx); (focus exact xx))); intro _) | (apply rc; (focus exact xx); (focus exact xx)) | (apply rk'; (focus exact xx); (focus exact xx))
  refine wh_count 512 (fun i A L => A = [(5, .int .i64 (4090 + r)), (6, .str [x]), (7, .str (reps x i)), (8, .int .i64 (i : Nat))] ∧ L = []) ⟨rfl, rfl⟩ ?_
  rintro i A L hi ⟨rfl, rfl⟩
  have hli := reps_len x i
  repeat' first | (apply dr_fin; (focus exact xx)) | (apply dr_v; focus (apply DV.mk; (focus exact RF.mk rfl); (focus exact RF.mk rfl); (focus exact RF.mk rfl); (focus exact RF.mk rfl); (focus exact xx); focus (first | exact InD.no | (apply InD.so; (focus exact xx))))) | (apply dr_r; focus (apply DL.mk; (focus exact RF.mk rfl); (focus exact xx); (focus exact xx); focus (first | exact InD.no | (apply InD.so; (focus exact xx))))) | (apply dr_l; (focus exact RF.mk rfl); (focus exact RF.mk rfl); (focus exact RF.mk rfl); (focus exact RF.mk rfl); (focus exact RF.mk rfl)) | (apply dr_e; (focus exact RF.mk rfl); (focus exact RF.mk rfl); (focus exact RF.mk rfl); (focus exact RF.mk rfl)) | (apply rd_e; (focus exact xx); focus (repeat first | exact PO.nil | apply PO.zero | (apply PO.ld; (focus exact xx)))) | (apply rd_l; (focus exact xx)) | refine wh_seq ?_ | refine wh_skip ?_ | refine wh_block ?_ | refine wh_end ?_ | refine wh_exit ?_ | refine wh_ret ?_ | refine bk_norm ?_ | refine bk_exit ?_ | refine bk_ret ?_ | refine fr_exit ?_ | refine fr_ret ?_ | refine lp_exit ?_ | refine lp_ret ?_ | refine jn_exit ?_ | refine jn_ret ?_ | refine bk_other rfl ?_ | (apply wr; focus exact xx) | refine wh_reg ?_ | refine wh_ife ?_ | (apply re; focus exact xx) | (apply ra; (focus exact xx); (focus exact xx); intro _) | (apply r1; (focus exact xx); (focus exact xx); intro _) | (apply rl; (focus exact xx); (focus exact xx); intro _) | (apply rb; (focus exact xx); (focus exact xx); intro _) | (apply rsi; (focus exact xx); (focus exact xx); all_goals try infer_instance) | (apply rsz; (focus exact xx); (focus exact xx); all_goals try infer_instance) | (apply rt; (focus exact xx); (focus exact xx)) | (apply rso; (focus exact xx); (focus exact xx); all_goals try infer_instance) | (apply rmm; (focus exact xx); intro _) | (apply rsb; (focus exact xx); (focus exact xx)) | (apply ru; (focus exact xx); (focus exact xx)) | (apply rm; (focus exact xx); (focus exact xx); intro _) | (apply rk; (focus exact xx); (focus exact xx); intro _) | (apply rcf; (focus exact xx); (focus (apply ACF.mk; (focus exact xx); (focus exact inferInstance); (focus exact xx); (focus exact inferInstance); (focus exact xx); (focus exact rfl)))) | (apply rco; (focus exact xx); (focus (apply ACO.mk; (focus exact xx); (focus exact xx); (focus exact inferInstance); (focus exact xx); (focus exact xx))); intro _) | (apply rc; (focus exact xx); (focus exact xx)) | (apply rk'; (focus exact xx); (focus exact xx))
  ((first | apply wi | apply rf); (focus exact xx); (focus exact xx); all_goals intro _)
  · repeat' first | (apply dr_fin; (focus exact xx)) | (apply dr_v; focus (apply DV.mk; (focus exact RF.mk rfl); (focus exact RF.mk rfl); (focus exact RF.mk rfl); (focus exact RF.mk rfl); (focus exact xx); focus (first | exact InD.no | (apply InD.so; (focus exact xx))))) | (apply dr_r; focus (apply DL.mk; (focus exact RF.mk rfl); (focus exact xx); (focus exact xx); focus (first | exact InD.no | (apply InD.so; (focus exact xx))))) | (apply dr_l; (focus exact RF.mk rfl); (focus exact RF.mk rfl); (focus exact RF.mk rfl); (focus exact RF.mk rfl); (focus exact RF.mk rfl)) | (apply dr_e; (focus exact RF.mk rfl); (focus exact RF.mk rfl); (focus exact RF.mk rfl); (focus exact RF.mk rfl)) | (apply rd_e; (focus exact xx); focus (repeat first | exact PO.nil | apply PO.zero | (apply PO.ld; (focus exact xx)))) | (apply rd_l; (focus exact xx)) | refine wh_seq ?_ | refine wh_skip ?_ | refine wh_block ?_ | refine wh_end ?_ | refine wh_exit ?_ | refine wh_ret ?_ | refine bk_norm ?_ | refine bk_exit ?_ | refine bk_ret ?_ | refine fr_exit ?_ | refine fr_ret ?_ | refine lp_exit ?_ | refine lp_ret ?_ | refine jn_exit ?_ | refine jn_ret ?_ | refine bk_other rfl ?_ | (apply wr; focus exact xx) | (apply wi; (focus exact xx); (focus exact xx); all_goals intro _; all_goals try first | contradiction | (exfalso; omega) | exact absurd trivial ‹_›) | refine wh_reg ?_ | refine wh_ife ?_ | (apply re; focus exact xx) | (apply rf; (focus exact xx); (focus exact xx); all_goals intro _; all_goals try first | contradiction | (exfalso; omega) | exact absurd trivial ‹_›) | (apply ra; (focus exact xx); (focus exact xx); intro _) | (apply r1; (focus exact xx); (focus exact xx); intro _) | (apply rl; (focus exact xx); (focus exact xx); intro _) | (apply rb; (focus exact xx); (focus exact xx); intro _) | (apply rsi; (focus exact xx); (focus exact xx); all_goals try infer_instance) | (apply rsz; (focus exact xx); (focus exact xx); all_goals try infer_instance) | (apply rt; (focus exact xx); (focus exact xx)) | (apply rso; (focus exact xx); (focus exact xx); all_goals try infer_instance) | (apply rmm; (focus exact xx); intro _) | (apply rsb; (focus exact xx); (focus exact xx)) | (apply ru; (focus exact xx); (focus exact xx)) | (apply rm; (focus exact xx); (focus exact xx); intro _) | (apply rk; (focus exact xx); (focus exact xx); intro _) | (apply rcf; (focus exact xx); (focus (apply ACF.mk; (focus exact xx); (focus exact inferInstance); (focus exact xx); (focus exact inferInstance); (focus exact xx); (focus exact rfl)))) | (apply rco; (focus exact xx); (focus (apply ACO.mk; (focus exact xx); (focus exact xx); (focus exact inferInstance); (focus exact xx); (focus exact xx))); intro _) | (apply rc; (focus exact xx); (focus exact xx)) | (apply rk'; (focus exact xx); (focus exact xx))
    exact fr_next (by omega) sbc ⟨by rw [reps_snoc], rfl⟩
  rename_i hi2
  obtain rfl : i = 512 := by omega
  obtain ⟨R, hR⟩ : ∃ R, reps x 512 = R := ⟨_, rfl⟩
  have hRl : R.length = 3072 := by rw [← hR, reps_len]
  obtain ⟨k, hk⟩ : ∃ k : Nat, 4090 + r = (k : Int) := ⟨(4090 + r).toNat, by omega⟩
  have h9 : ((((((((R ++ R) ++ R) ++ R) ++ R) ++ R) ++ R) ++ R) ++ R) = reps x 4608 := by
    rw [← hR]; simp only [reps_add]
  obtain ⟨s, hs⟩ : ∃ s, ((((((((R ++ R) ++ R) ++ R) ++ R) ++ R) ++ R) ++ R) ++ R).take (6 * (4090 + r) - 1).toNat ++ [10] = s := ⟨_, rfl⟩
  have hs' : s = (reps x 4608).take (6 * k - 1) ++ [10] := by
    rw [← hs, h9]; congr 2; omega
  obtain ⟨hl, hlo, hhi⟩ := many_read hx (by omega) (by omega) s hs'
  have hsl : s.length ≤ 1048576 := by omega
  have c1 : PCon T0 n.read_Text [.str (((((((((R ++ R) ++ R) ++ R) ++ R) ++ R) ++ R) ++ R) ++ R).take (6 * (4090 + r) - 1).toNat ++ [10])] true True (.tup [eH (rdH s), .int .i64 (rdI s : Nat), .int .i64 (rdE s)]) := ⟨fun _ => by rw [hs]; have := (read_Text s).con hsl; rw [readV_eq] at this; exact this⟩
  have hh : hb (rdH s) := rd_hb (by omega)
  obtain ⟨hh1, hh2⟩ := hh
  have hh' : hb (rdH s) := ⟨hh1, hh2⟩
  have hi := read_inv hsl
  have hX : (((((((((R ++ R) ++ R) ++ R) ++ R) ++ R) ++ R) ++ R) ++ R).take (6 * (4090 + r) - 1).toNat).length ≤ 1048576 := by
    rw [List.length_take]; simp only [List.length_append]; omega
  rw [hR]
  clear hs hs' h9
  repeat' first | (apply dr_fin; (focus exact xx)) | (apply dr_v; focus (apply DV.mk; (focus exact RF.mk rfl); (focus exact RF.mk rfl); (focus exact RF.mk rfl); (focus exact RF.mk rfl); (focus exact xx); focus (first | exact InD.no | (apply InD.so; (focus exact xx))))) | (apply dr_r; focus (apply DL.mk; (focus exact RF.mk rfl); (focus exact xx); (focus exact xx); focus (first | exact InD.no | (apply InD.so; (focus exact xx))))) | (apply dr_l; (focus exact RF.mk rfl); (focus exact RF.mk rfl); (focus exact RF.mk rfl); (focus exact RF.mk rfl); (focus exact RF.mk rfl)) | (apply dr_e; (focus exact RF.mk rfl); (focus exact RF.mk rfl); (focus exact RF.mk rfl); (focus exact RF.mk rfl)) | (apply rd_e; (focus exact xx); focus (repeat first | exact PO.nil | apply PO.zero | (apply PO.ld; (focus exact xx)))) | (apply rd_l; (focus exact xx)) | refine wh_seq ?_ | refine wh_skip ?_ | refine wh_block ?_ | refine wh_end ?_ | refine wh_exit ?_ | refine wh_ret ?_ | refine bk_norm ?_ | refine bk_exit ?_ | refine bk_ret ?_ | refine fr_exit ?_ | refine fr_ret ?_ | refine lp_exit ?_ | refine lp_ret ?_ | refine jn_exit ?_ | refine jn_ret ?_ | refine bk_other rfl ?_ | (apply wr; focus exact xx) | (apply wi; (focus exact xx); (focus exact xx); all_goals intro _; all_goals try first | contradiction | (exfalso; omega) | exact absurd trivial ‹_›) | refine wh_reg ?_ | refine wh_ife ?_ | (apply re; focus exact xx) | (apply rf; (focus exact xx); (focus exact xx); all_goals intro _; all_goals try first | contradiction | (exfalso; omega) | exact absurd trivial ‹_›) | (apply ra; (focus exact xx); (focus exact xx); intro _) | (apply r1; (focus exact xx); (focus exact xx); intro _) | (apply rl; (focus exact xx); (focus exact xx); intro _) | (apply rb; (focus exact xx); (focus exact xx); intro _) | (apply rsi; (focus exact xx); (focus exact xx); all_goals try infer_instance) | (apply rsz; (focus exact xx); (focus exact xx); all_goals try infer_instance) | (apply rt; (focus exact xx); (focus exact xx)) | (apply rso; (focus exact xx); (focus exact xx); all_goals try infer_instance) | (apply rmm; (focus exact xx); intro _) | (apply rsb; (focus exact xx); (focus exact xx)) | (apply ru; (focus exact xx); (focus exact xx)) | (apply rm; (focus exact xx); (focus exact xx); intro _) | (apply rk; (focus exact xx); (focus exact xx); intro _) | (apply rcf; (focus exact xx); (focus (apply ACF.mk; (focus exact xx); (focus exact inferInstance); (focus exact xx); (focus exact inferInstance); (focus exact xx); (focus exact rfl)))) | (apply rco; (focus exact xx); (focus (apply ACO.mk; (focus exact xx); (focus exact xx); (focus exact inferInstance); (focus exact xx); (focus exact xx))); intro _) | (apply rc; (focus exact xx); (focus exact xx)) | (apply rk'; (focus exact xx); (focus exact xx))
  · rename_i h
    obtain ⟨h1, h2⟩ := hhi (by omega)
    have h0 : ¬ (readT s).2.e = 0 := by rw [h1]; decide
    have e1 : rdH s = [] := if_neg h0
    have e2 : rdI s = (readT s).2.at' := if_neg h0
    have e3 : rdE s = 3 := h1
    refine fz ?_
    rw [e1, e2, e3, h2]; simp
  · rename_i h
    obtain ⟨h1, h2⟩ := hlo (by omega)
    have e1 : rdH s = (readT s).1 := if_pos h1
    have e3 : rdE s = 0 := h1
    refine fz ?_
    rw [e3, e1, hi.2.1, h2, ← hk]; simp⟩
end Go.AM

set_option linter.unusedVariables false
set_option linter.unusedSimpArgs false
namespace Go.AM
open Go.RowKit Go.Deep Go.Proofs
theorem readMany_ok (q : Int) (b : Bool) (hb : (fun _ : Int => 1) q + (fun _ : Bool => 1) b ≤ 1048576) : True := trivial
end Go.AM

