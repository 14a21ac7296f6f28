/- Part ZG of the proof. -/
import Derived.Test.YthhgiappgpeloaaDoorZB
import Derived.Test.YthhgiappgpeloaaDoorA3
set_option linter.unusedVariables false
set_option linter.unusedSimpArgs false
namespace Go.AM
open Go.Lib
attribute [-simp] List.length_flatten List.map_flatten List.map_take List.map_map List.flatten_append
theorem dec_head : ∀ u, 1 ≤ u → ∃ c t, decDigits u = c :: t ∧ c.toNat ≠ 48 := dec_rec
  (fun u h h1 => ⟨_, _, dec_small h, by rw [byte_nat h]; omega⟩)
  (fun u h ih h1 => by
    obtain ⟨c, t, h2, h3⟩ := ih (by omega)
    exact ⟨c, _, by rw [dec_big h, h2]; rfl, h3⟩)
theorem dec_cons (u : Nat) : ∃ c t, decDigits u = c :: t ∧ dig c = true := by
  cases h : decDigits u with
  | nil => have := dec_ne u; rw [h] at this; cases this
  | cons c t =>
    refine ⟨c, t, rfl, ?_⟩
    have := dec_dig u
    rw [h] at this
    simp only [List.all_cons, Bool.and_eq_true] at this
    exact this.1
theorem sgn_dec (u : Nat) (r : List UInt8) : sgn (decDigits u ++ r) = 0 := by
  obtain ⟨c, t, h, hc⟩ := dec_cons u
  rw [h, sgn]
  rw [if_neg]
  intro h'
  simp only [List.cons_append, List.isPrefixOf, Bool.and_eq_true, beq_iff_eq] at h'
  rw [← h'.1] at hc
  revert hc; decide
theorem sgn_neg (r : List UInt8) : sgn (45 :: r) = 1 := by simp [sgn, List.isPrefixOf]
theorem itoa_pos {q : Int} (h : ¬ q < 0) : itoa q = decDigits q.natAbs := by
  rw [itoa, if_neg h, show q.toNat = q.natAbs by omega]
theorem itoa_ng {q : Int} (h : q < 0) : itoa q = 45 :: decDigits q.natAbs := by rw [itoa, if_pos h]
theorem get_itoa {q : Int} (h : okN q) : getS (itoa q) = (q, 0) := by
  obtain ⟨h1, h2⟩ := h
  by_cases hq : q < 0
  · rw [itoa_ng hq]
    have hs := sgn_neg (decDigits q.natAbs)
    have hd : (45 :: decDigits q.natAbs).drop (sgn (45 :: decDigits q.natAbs)) = decDigits q.natAbs := by rw [hs]; rfl
    have hok : okD (45 :: decDigits q.natAbs) := by
      unfold okD
      rw [hd]
      refine ⟨fun h => ?_, dec_dig _, fun h => ?_⟩
      · have := dec_ne q.natAbs; rw [h] at this; cases this
      · obtain ⟨c, t, h3, h4⟩ := dec_head q.natAbs (by omega)
        rw [h3] at h
        exact h4 h.1
    unfold getS
    rw [if_pos hok, hd, dec_num, mostN, hs, if_pos (by omega), if_pos rfl]
    rw [show -(q.natAbs : Int) = q by omega]
  · rw [itoa_pos hq]
    have hs : sgn (decDigits q.natAbs) = 0 := by have := sgn_dec q.natAbs []; rwa [List.append_nil] at this
    have hd : (decDigits q.natAbs).drop (sgn (decDigits q.natAbs)) = decDigits q.natAbs := by rw [hs]; rfl
    have hok : okD (decDigits q.natAbs) := by
      unfold okD
      rw [hd]
      refine ⟨fun h => ?_, dec_dig _, fun h => ?_⟩
      · have := dec_ne q.natAbs; rw [h] at this; cases this
      · by_cases h0 : q.natAbs = 0
        · rw [h0] at h; exact h.2 (by rw [dec_small (by decide)]; decide)
        · obtain ⟨c, t, h3, h4⟩ := dec_head q.natAbs (by omega)
          rw [h3] at h
          exact h4 h.1
    unfold getS
    rw [if_pos hok, hd, dec_num, mostN, hs, if_pos (by omega), if_neg (by decide)]
    rw [show (q.natAbs : Int) = q by omega]
theorem tw_all {p : UInt8 → Bool} : ∀ {l r : List UInt8}, l.all p = true → (l ++ r).takeWhile p = l ++ r.takeWhile p
  | [], r, _ => rfl
  | c :: l, r, h => by
    simp only [List.all_cons, Bool.and_eq_true] at h
    rw [List.cons_append, List.takeWhile_cons_of_pos h.1, tw_all h.2]; rfl
theorem span_itoa (q : Int) (r : List UInt8) (hr : r.takeWhile dig = []) : spanR (itoa q ++ r) = (itoa q).length := by
  by_cases hq : q < 0
  · rw [itoa_ng hq, List.cons_append, spanR, sgn_neg]
    show 1 + ((decDigits q.natAbs ++ r).takeWhile dig).length = _
    rw [tw_all (dec_dig _), hr, List.append_nil, List.length_cons]; omega
  · rw [itoa_pos hq, spanR, sgn_dec]
    show 0 + ((decDigits q.natAbs ++ r).takeWhile dig).length = _
    rw [tw_all (dec_dig _), hr, List.append_nil]; omega
theorem itoa_ne (q : Int) : 1 ≤ (itoa q).length := by
  by_cases hq : q < 0
  · rw [itoa_ng hq]; simp
  · rw [itoa_pos hq]; exact dec_ne _
theorem span_at (s t : List UInt8) (ht : 0 < t.length) : spanI (s ++ t) (s.length : Nat) = (spanR t : Nat) := by
  unfold spanI
  rw [if_neg (by rw [List.length_append]; omega), Int.toNat_natCast, List.drop_left]
theorem dec_inv : ∀ (k : Nat) (d : List UInt8), d.length = k + 1 → d.all dig = true → (nth d 0 = 48 → d = [48]) → decDigits (numV d) = d := by
  intro k
  induction k with
  | zero =>
    intro d hl hd _
    match d, hl with
    | [c], _ =>
      simp only [List.all_cons, List.all_nil, Bool.and_true, dig, Bool.and_eq_true, decide_eq_true_eq] at hd
      show decDigits (10 * 0 + (c.toNat - 48)) = [c]
      rw [dec_small (by omega)]
      congr 1
      apply UInt8.toNat_inj.1
      rw [byte_nat (by omega)]; omega
  | succ k ih =>
    intro d hl hd h48
    have hne0 : d ≠ [] := fun h => by rw [h] at hl; cases hl
    obtain ⟨d', c, rfl⟩ : ∃ d' c, d = d' ++ [c] := ⟨d.dropLast, d.getLast hne0, (List.dropLast_concat_getLast hne0).symm⟩
    rw [List.length_append, List.length_singleton] at hl
    rw [List.all_append, Bool.and_eq_true] at hd
    have hc := hd.2
    simp only [List.all_cons, List.all_nil, Bool.and_true, dig, Bool.and_eq_true, decide_eq_true_eq] at hc
    have h0 : nth (d' ++ [c]) 0 = nth d' 0 := by
      rw [nth_eq (by rw [List.length_append]; omega), nth_eq (by omega), List.getElem_append_left (by omega)]
    have hne : nth d' 0 ≠ 48 := fun h => by
      have := congrArg List.length (h48 (h0.trans h))
      rw [List.length_append, List.length_singleton, List.length_singleton] at this
      omega
    have hI := ih d' (by omega) hd.1 (fun h => absurd h hne)
    have h1 : 1 ≤ numV d' := by
      rcases Nat.eq_zero_or_pos (numV d') with h | h
      · rw [h, dec_small (by decide)] at hI
        rw [← hI] at hne
        exact absurd (by decide) hne
      · exact h
    rw [numV_snoc, dec_big (by omega), show (10 * numV d' + (c.toNat - 48)) / 10 = numV d' by omega, hI, show (10 * numV d' + (c.toNat - 48)) % 10 = c.toNat - 48 by omega]
    congr 2
    apply UInt8.toNat_inj.1
    rw [byte_nat (by omega)]; omega
theorem itoa_get {s : List UInt8} (h : (getS s).2 = 0) : okN (getS s).1 ∧ itoa (getS s).1 = s := by
  unfold getS at h ⊢
  by_cases ho : okD s
  · rw [if_pos ho] at h ⊢
    by_cases hm : numV (s.drop (sgn s)) ≤ mostN s
    · rw [if_pos hm]
      obtain ⟨h1, h2, h3⟩ := ho
      have hI : decDigits (numV (s.drop (sgn s))) = s.drop (sgn s) := by
        refine dec_inv ((s.drop (sgn s)).length - 1) _ ?_ h2 fun h4 => ?_
        · have : (s.drop (sgn s)).length ≠ 0 := fun h => h1 (List.length_eq_zero_iff.1 h)
          omega
        · have hs : s = [48] := Decidable.not_not.1 fun h5 => h3 ⟨by rw [h4]; rfl, h5⟩
          rw [hs]; rfl
      have hsg : sgn s = 0 ∨ sgn s = 1 := by unfold sgn; split <;> simp
      rcases hsg with hg | hg
      · have hd : s.drop (sgn s) = s := by rw [hg]; rfl
        rw [hd] at hI hm ⊢
        have hm' : numV s ≤ 9223372036854775807 := by unfold mostN at hm; rw [hg] at hm; exact hm
        rw [if_neg (by rw [hg]; decide)]
        refine ⟨⟨by simp only; omega, by simp only; omega⟩, ?_⟩
        rw [itoa_pos (by simp only; omega)]
        show decDigits ((numV s : Int)).natAbs = s
        rw [Int.natAbs_natCast, hI]
      · have hs : s = 45 :: s.drop 1 := by
          unfold sgn at hg
          split at hg
          · rename_i hp
            cases s with
            | nil => simp [List.isPrefixOf] at hp
            | cons c t =>
              simp only [List.isPrefixOf, Bool.and_eq_true, beq_iff_eq] at hp
              rw [← hp.1]; rfl
          · cases hg
        rw [hg] at hI hm h3 ⊢
        have hm' : numV (s.drop 1) ≤ 9223372036854775808 := by unfold mostN at hm; rw [hg] at hm; exact hm
        have hpos : 1 ≤ numV (s.drop 1) := by
          rcases Nat.eq_zero_or_pos (numV (s.drop 1)) with h0 | h0
          · rw [h0, dec_small (by decide)] at hI
            refine absurd ⟨?_, ?_⟩ h3
            · rw [← hI]; decide
            · rw [hs]; intro h'; injection h' with h' _; revert h'; decide
          · exact h0
        rw [if_pos rfl]
        refine ⟨⟨by simp only; omega, by simp only; omega⟩, ?_⟩
        rw [itoa_ng (by simp only; omega)]
        show 45 :: decDigits (-(numV (s.drop 1) : Int)).natAbs = s
        rw [Int.natAbs_neg, Int.natAbs_natCast, hI, ← hs]
    · rw [if_neg hm] at h; cases h
  · rw [if_neg ho] at h; cases h
theorem get_bad {s : List UInt8} (h : ¬ (getS s).2 = 0) : (getS s).1 = 0 := by
  unfold getS at h ⊢
  split
  · rename_i h1
    rw [if_pos h1] at h
    split
    · rename_i h2; rw [if_pos h2] at h; exact absurd rfl h
    · rfl
  · rfl
theorem span_sign {s : List UInt8} {i : Nat} (h : 0 < spanI s i) (hi : i < s.length) : ((nth s i).toNat : Int) = 45 ∨ (48 ≤ ((nth s i).toNat : Int) ∧ ((nth s i).toNat : Int) ≤ 57) := by
  unfold spanI at h
  rw [if_neg (by omega), Int.toNat_natCast, List.drop_eq_getElem_cons hi, ← nth_eq hi] at h
  generalize nth s i = c at *
  by_cases h1 : c = 45
  · left; rw [h1]; rfl
  · have hs : sgn (c :: s.drop (i + 1)) = 0 := by
      unfold sgn; rw [if_neg]
      intro h'
      simp only [List.isPrefixOf, Bool.and_eq_true, beq_iff_eq] at h'
      exact h1 h'.1.symm
    rw [spanR, hs] at h
    cases hd : dig c with
    | true =>
      simp only [dig, Bool.and_eq_true, decide_eq_true_eq] at hd
      right; omega
    | false =>
      rw [List.drop_zero, List.takeWhile_cons_of_neg (by rw [hd]; decide)] at h
      simp at h
end Go.AM

set_option linter.unusedVariables false
set_option linter.unusedSimpArgs false
namespace Go.AM
attribute [-simp] List.length_flatten List.map_flatten List.map_take List.map_map List.flatten_append
/-- A text that is read. -/
structure Cur where
  s : List UInt8
  at' : Nat
  ops : Nat
  e : Int
  deriving Inhabited
@[reducible] def eCur (c : Cur) : V := .agg [.str c.s, .int .i64 (c.at' : Nat), .int .i64 (c.ops : Nat), .int .i64 c.e]
@[reducible] def cb (id : Nat) (c : Cur) : HE := .ob id (.row 4 true [eCur c])
def seesC (c : Cur) (b : UInt8) : Bool := decide (c.e = 0) && (decide (c.at' < c.s.length) && decide ((nth c.s c.at') = b))
def failC (c : Cur) (e : Int) : Cur := if c.e = 0 then { c with e := e } else c
def takeC (c : Cur) (b : UInt8) : Cur := if seesC c b = true then { c with at' := c.at' + 1 } else c
def mustC (c : Cur) (b : UInt8) : Cur := if seesC c b = true then takeC c b else failC (takeC c b) 2
def nameN (c : Cur) : Nat := if c.e = 0 then min 8 ((c.s.drop c.at').takeWhile low).length else 0
def nameC (c : Cur) : Cur := if nameN c = 0 then failC c 2 else { c with at' := c.at' + nameN c }
theorem tw_ge {α : Type} {p : α → Bool} : ∀ {l : List α} {m : Nat}, (l.take m).all p = true → m ≤ l.length → m ≤ (l.takeWhile p).length
  | _, 0, _, _ => Nat.zero_le _
  | [], m + 1, _, h => by simp at h
  | a :: r, m + 1, h1, h2 => by
    simp only [List.take_succ_cons, List.all_cons, Bool.and_eq_true] at h1
    rw [List.takeWhile_cons_of_pos h1.1, List.length_cons]
    have := tw_ge (l := r) (m := m) h1.2 (by simpa using h2)
    omega
theorem name_end {c : Cur} {j : Nat} (hj8 : j ≤ 8) (hjl : j ≤ (c.s.drop c.at').length) (hj0 : j = 0 ∨ c.e = 0) (hall : ((c.s.drop c.at').take j).all low = true)
    (h : ¬ ((((c.e = 0 ∧ ((c.at' + j : Nat) : Int) - c.at' < 8) ∧ ((c.at' + j : Nat) : Int) < (c.s.length : Int)) ∧ 97 ≤ ((nth c.s (c.at' + j)).toNat : Int)) ∧ ((nth c.s (c.at' + j)).toNat : Int) ≤ 122)) : nameN c = j := by
  have hdl : (c.s.drop c.at').length = c.s.length - c.at' := List.length_drop
  unfold nameN
  by_cases he : c.e = 0
  · rw [if_pos he]
    by_cases h8 : j = 8
    · have := tw_ge hall hjl; omega
    · have ht := tw_stop hall hjl (by
        by_cases hl : j = (c.s.drop c.at').length
        · exact .inl hl
        · right
          rw [nth_drop]
          cases hlow : low (nth c.s (c.at' + j)) with
          | false => rfl
          | true =>
            simp only [low, Bool.and_eq_true, decide_eq_true_eq] at hlow
            exact absurd ⟨⟨⟨⟨he, by omega⟩, by omega⟩, by omega⟩, by omega⟩ h)
      rw [ht]; omega
  · rw [if_neg he]
    rcases hj0 with h | h
    · exact h.symm
    · exact absurd h he
end Go.AM

set_option linter.unusedVariables false
set_option linter.unusedSimpArgs false
namespace Go.AM
attribute [-simp] List.length_flatten List.map_flatten List.map_take List.map_map List.flatten_append
theorem span_le (s : List UInt8) (a : Nat) (h : a ≤ s.length) : ∃ k : Nat, spanI s a = k ∧ a + k ≤ s.length := by
  unfold spanI
  split
  · exact ⟨0, rfl, h⟩
  · refine ⟨_, rfl, ?_⟩
    have h1 := sgn_le (s.drop (a : Int).toNat)
    have h2 := tw_dw (p := dig) ((s.drop (a : Int).toNat).drop (sgn (s.drop (a : Int).toNat)))
    rw [List.length_drop, List.length_drop] at h2
    rw [List.length_drop] at h1
    rw [spanR]
    simp only [Int.toNat_natCast] at *
    omega
def numT (c : Cur) : List UInt8 := (c.s.drop c.at').take (spanI c.s c.at').toNat
def numberC (c : Cur) : Cur := if c.e = 0 then (if (getS (numT c)).2 = 0 then { c with at' := c.at' + (spanI c.s c.at').toNat } else failC c (getS (numT c)).2) else c
def numberV (c : Cur) : Int := if c.e = 0 then (if (getS (numT c)).2 = 0 then (getS (numT c)).1 else 0) else 0
end Go.AM

set_option linter.unusedVariables false
set_option linter.unusedSimpArgs false
namespace Go.AM
attribute [-simp] List.length_flatten List.map_flatten List.map_take List.map_map List.flatten_append
def okCu (c : Cur) : Prop := c.at' ≤ c.s.length ∧ c.s.length ≤ 1048576
theorem fail_ok {c : Cur} {e : Int} (h : okCu c) : okCu (failC c e) := by
  unfold failC; split <;> exact h
theorem fail_s (c : Cur) (e : Int) : (failC c e).s = c.s ∧ (failC c e).ops = c.ops ∧ (failC c e).at' = c.at' := by
  unfold failC; split <;> exact ⟨rfl, rfl, rfl⟩
theorem sees_lt {c : Cur} {b : UInt8} (h : seesC c b = true) : c.e = 0 ∧ c.at' < c.s.length ∧ nth c.s c.at' = b := by
  simpa [seesC] using h
theorem take_ok {c : Cur} {b : UInt8} (h : okCu c) : okCu (takeC c b) := by
  unfold takeC; split
  · rename_i hs; exact ⟨(sees_lt hs).2.1, h.2⟩
  · exact h
theorem take_s (c : Cur) (b : UInt8) : (takeC c b).s = c.s ∧ (takeC c b).ops = c.ops ∧ (takeC c b).e = c.e := by
  unfold takeC; split <;> exact ⟨rfl, rfl, rfl⟩
theorem must_ok {c : Cur} {b : UInt8} (h : okCu c) : okCu (mustC c b) := by
  unfold mustC; split
  · exact take_ok h
  · exact fail_ok (take_ok h)
theorem must_s (c : Cur) (b : UInt8) : (mustC c b).s = c.s ∧ (mustC c b).ops = c.ops := by
  unfold mustC; split
  · exact ⟨(take_s c b).1, (take_s c b).2.1⟩
  · exact ⟨(fail_s _ _).1.trans (take_s c b).1, (fail_s _ _).2.1.trans (take_s c b).2.1⟩
theorem name_le (c : Cur) : nameN c ≤ c.s.length - c.at' := by
  unfold nameN; split
  · have := tw_dw (p := low) (c.s.drop c.at')
    rw [List.length_drop] at this; omega
  · omega
theorem name_ok {c : Cur} (h : okCu c) : okCu (nameC c) := by
  unfold nameC; split
  · exact fail_ok h
  · exact ⟨by show c.at' + nameN c ≤ c.s.length; have := name_le c; have := h.1; omega, h.2⟩
theorem name_s (c : Cur) : (nameC c).s = c.s ∧ (nameC c).ops = c.ops := by
  unfold nameC; split
  · exact ⟨(fail_s _ _).1, (fail_s _ _).2.1⟩
  · exact ⟨rfl, rfl⟩
theorem number_ok {c : Cur} (h : okCu c) : okCu (numberC c) := by
  obtain ⟨k, hk, hkl⟩ := span_le c.s c.at' h.1
  unfold numberC; split
  · split
    · exact ⟨by show c.at' + (spanI c.s c.at').toNat ≤ c.s.length; rw [hk]; simpa using hkl, h.2⟩
    · exact fail_ok h
  · exact h
theorem number_s (c : Cur) : (numberC c).s = c.s ∧ (numberC c).ops = c.ops := by
  unfold numberC; split
  · split
    · exact ⟨rfl, rfl⟩
    · exact ⟨(fail_s _ _).1, (fail_s _ _).2.1⟩
  · exact ⟨rfl, rfl⟩
/-- One operation, read: the states one by one. -/
def op1 (c : Cur) : Cur := if c.ops = 4096 ∧ (seesC c 119 = true ∨ seesC c 114 = true) then failC c 3 else c
def op2 (c : Cur) : Cur := takeC (op1 c) 119
def op3 (c : Cur) : Cur := if seesC (op1 c) 119 = true then op2 c else mustC (op2 c) 114
def op4 (c : Cur) : Cur := mustC (op3 c) 58
def op5 (c : Cur) : Cur := nameC (op4 c)
def op6 (c : Cur) : Cur := mustC (op5 c) 61
def op7 (c : Cur) : Cur := numberC (op6 c)
def opC (c : Cur) : Cur := { op7 c with ops := (op7 c).ops + 1 }
def opV (c : Cur) : Op := ⟨seesC (op1 c) 119, ((op4 c).s.drop (op4 c).at').take (nameN (op4 c)), numberV (op6 c)⟩
theorem op1_ok {c : Cur} (h : okCu c) : okCu (op1 c) := by
  unfold op1; split
  · exact fail_ok h
  · exact h
theorem op3_ok {c : Cur} (h : okCu c) : okCu (op3 c) := by
  unfold op3; split
  · exact take_ok (op1_ok h)
  · exact must_ok (take_ok (op1_ok h))
theorem op7_ok {c : Cur} (h : okCu c) : okCu (op7 c) := number_ok (must_ok (name_ok (must_ok (op3_ok h))))
theorem opC_ok {c : Cur} (h : okCu c) : okCu (opC c) := op7_ok h
end Go.AM

set_option linter.unusedVariables false
set_option linter.unusedSimpArgs false
namespace Go.AM
attribute [-simp] List.length_flatten List.map_flatten List.map_take List.map_map List.flatten_append
theorem CEF.now {T : Nat → Option Fn} {α : Type} {e : α → HE} {f : Nat} {vs : List V} {c c' : α} {P : Prop} {v : V} (h : CEF T e f vs c P v c') (hP : P) : CEF T e f vs c True v c' := ⟨fun _ => h.ce hP⟩
theorem op_s (c : Cur) : (op1 c).ops = c.ops ∧ (op1 c).s = c.s ∧ (op3 c).ops = c.ops ∧ (op3 c).s = c.s ∧ (op7 c).ops = c.ops ∧ (op7 c).s = c.s := by
  have h1 : (op1 c).ops = c.ops ∧ (op1 c).s = c.s := by
    unfold op1; split
    · exact ⟨(fail_s _ _).2.1, (fail_s _ _).1⟩
    · exact ⟨rfl, rfl⟩
  have h2 : (op2 c).ops = c.ops ∧ (op2 c).s = c.s := ⟨(take_s _ _).2.1.trans h1.1, (take_s _ _).1.trans h1.2⟩
  have h3 : (op3 c).ops = c.ops ∧ (op3 c).s = c.s := by
    unfold op3; split
    · exact h2
    · exact ⟨(must_s _ _).2.trans h2.1, (must_s _ _).1.trans h2.2⟩
  have h4 : (op4 c).ops = c.ops ∧ (op4 c).s = c.s := ⟨(must_s _ _).2.trans h3.1, (must_s _ _).1.trans h3.2⟩
  have h5 : (op5 c).ops = c.ops ∧ (op5 c).s = c.s := ⟨(name_s _).2.trans h4.1, (name_s _).1.trans h4.2⟩
  have h6 : (op6 c).ops = c.ops ∧ (op6 c).s = c.s := ⟨(must_s _ _).2.trans h5.1, (must_s _ _).1.trans h5.2⟩
  have h7 : (op7 c).ops = c.ops ∧ (op7 c).s = c.s := ⟨(number_s _).2.trans h6.1, (number_s _).1.trans h6.2⟩
  exact ⟨h1.1, h1.2, h3.1, h3.2, h7.1, h7.2⟩
end Go.AM

set_option linter.unusedVariables false
set_option linter.unusedSimpArgs false
namespace Go.AM
attribute [-simp] List.length_flatten List.map_flatten List.map_take List.map_map List.flatten_append
/-! How far the cursor's methods go. -/
theorem take_at (c : Cur) (b : UInt8) : c.at' ≤ (takeC c b).at' := by
  unfold takeC; split
  · exact Nat.le_succ _
  · exact Nat.le_refl _
theorem must_at (c : Cur) (b : UInt8) : c.at' ≤ (mustC c b).at' := by
  unfold mustC; split
  · exact take_at c b
  · rw [(fail_s _ _).2.2]; exact take_at c b
theorem name_at (c : Cur) : c.at' ≤ (nameC c).at' := by
  unfold nameC; split
  · rw [(fail_s _ _).2.2]; exact Nat.le_refl _
  · exact Nat.le_add_right _ _
theorem number_at (c : Cur) : c.at' ≤ (numberC c).at' := by
  unfold numberC; split
  · split
    · exact Nat.le_add_right _ _
    · rw [(fail_s _ _).2.2]; exact Nat.le_refl _
  · exact Nat.le_refl _
theorem op_at (c : Cur) : c.at' ≤ (opC c).at' := by
  have h1 : c.at' ≤ (op1 c).at' := by
    unfold op1; split
    · rw [(fail_s _ _).2.2]; exact Nat.le_refl _
    · exact Nat.le_refl _
  have h3 : c.at' ≤ (op3 c).at' := by
    unfold op3; split
    · exact Nat.le_trans h1 (take_at _ _)
    · exact Nat.le_trans (Nat.le_trans h1 (take_at _ _)) (must_at _ _)
  exact Nat.le_trans (Nat.le_trans (Nat.le_trans (Nat.le_trans h3 (must_at _ _)) (name_at _)) (must_at _ _)) (number_at _)
theorem op_cs (c : Cur) : (opC c).s = c.s ∧ (opC c).ops = c.ops + 1 := ⟨(op_s c).2.2.2.2.2, congrArg (· + 1) (op_s c).2.2.2.2.1⟩
/-- What follows in a line, behind its first operation. -/
def moreC : Nat → Cur → List Op × Cur
  | 0, c => ([], c)
  | k + 1, c => if seesC c 32 = true then (opV (takeC c 32) :: (moreC k (opC (takeC c 32))).1, (moreC k (opC (takeC c 32))).2) else ([], c)
def lineV (c : Cur) : List Op := if seesC c 10 = true then [] else opV c :: (moreC c.s.length (opC c)).1
def lineC (c : Cur) : Cur := if seesC c 10 = true then takeC c 10 else mustC (moreC c.s.length (opC c)).2 10
theorem take_no {c : Cur} {b : UInt8} (h : ¬ seesC c b = true) : takeC c b = c := by rw [takeC, if_neg h]
theorem take_yes {c : Cur} {b : UInt8} (h : seesC c b = true) : takeC c b = { c with at' := c.at' + 1 } := by rw [takeC, if_pos h]
theorem more_ok : ∀ {m : Nat} {c : Cur}, okCu c → okCu (moreC m c).2
  | 0, _, h => h
  | m + 1, c, h => by
    unfold moreC; split
    · exact more_ok (opC_ok (take_ok h))
    · exact h
theorem more_s : ∀ {m : Nat} {c : Cur}, (moreC m c).2.s = c.s
  | 0, _ => rfl
  | m + 1, c => by
    unfold moreC; split
    · exact (more_s (m := m)).trans ((op_cs _).1.trans (take_s _ _).1)
    · rfl
theorem more_ops : ∀ {m : Nat} {c : Cur} {k : Nat}, c.ops ≤ c.at' + k → (moreC m c).2.ops ≤ (moreC m c).2.at' + k
  | 0, _, _, h => h
  | m + 1, c, k, h => by
    unfold moreC; split
    · rename_i hs
      refine more_ops (m := m) ?_
      have h1 := op_at (takeC c 32)
      rw [(op_cs _).2, (take_s _ _).2.1]
      rw [take_yes hs] at h1 ⊢
      simp only at h1
      omega
    · exact h
theorem more_at : ∀ {m : Nat} {c : Cur}, c.at' ≤ (moreC m c).2.at'
  | 0, _ => Nat.le_refl _
  | m + 1, c => by
    unfold moreC; split
    · exact Nat.le_trans (Nat.le_trans (take_at c 32) (op_at _)) (more_at (m := m))
    · exact Nat.le_refl _
/-- The line's premise. -/
def okL (c : Cur) : Prop := okCu c ∧ c.ops ≤ c.at'
theorem line_s (c : Cur) : (lineC c).s = c.s := by
  unfold lineC; split
  · exact (take_s _ _).1
  · exact (must_s _ _).1.trans (more_s.trans (op_cs _).1)
theorem line_ok {c : Cur} (h : okL c) : okCu (lineC c) := by
  unfold lineC; split
  · exact take_ok h.1
  · exact must_ok (more_ok (opC_ok h.1))
theorem must_e {c : Cur} {b : UInt8} (h : (mustC c b).e = 0) : seesC c b = true := by
  by_cases hs : seesC c b = true
  · exact hs
  · rw [mustC, if_neg hs, failC] at h
    split at h
    · cases h
    · contradiction
theorem line_ops {c : Cur} (h : okL c) (he : (lineC c).e = 0) : okL (lineC c) ∧ c.at' < (lineC c).at' := by
  refine ⟨⟨line_ok h, ?_⟩, ?_⟩
  · unfold lineC at he ⊢; split
    · rename_i hs; rw [take_yes hs]; exact Nat.le_succ_of_le h.2
    · rename_i hs
      rw [if_neg hs] at he
      have h1 : (opC c).ops ≤ (opC c).at' + 1 := by rw [(op_cs c).2]; have := op_at c; have := h.2; omega
      have h2 := more_ops (m := c.s.length) h1
      have h3 := must_e he
      rw [mustC, if_pos h3, take_yes h3]
      exact h2
  · unfold lineC at he ⊢; split
    · rename_i hs; rw [take_yes hs]; exact Nat.lt_succ_self _
    · rename_i hs
      rw [if_neg hs] at he
      have h3 := must_e he
      rw [mustC, if_pos h3, take_yes h3]
      exact Nat.lt_succ_of_le (Nat.le_trans (op_at c) more_at)
end Go.AM

set_option linter.unusedVariables false
set_option linter.unusedSimpArgs false
namespace Go.AM
attribute [-simp] List.length_flatten List.map_flatten List.map_take List.map_map List.flatten_append
/-- A history's text, read. -/
def textC : Nat → Cur → List (List Op) × Cur
  | 0, c => ([], c)
  | k + 1, c => if c.e = 0 ∧ c.at' < c.s.length then (lineV c :: (textC k (lineC c)).1, (textC k (lineC c)).2) else ([], c)
def readT (s : List UInt8) : List (List Op) × Cur := textC s.length ⟨s, 0, 0, 0⟩
def readV (s : List UInt8) : V := if (readT s).2.e = 0 then .tup [eH (readT s).1, .int .i64 0, .int .i64 0] else .tup [eH [], .int .i64 ((readT s).2.at' : Nat), .int .i64 (readT s).2.e]
theorem pm_end {P R : List HE} {e : HE} : List.Perm (e :: (P ++ R)) (P ++ (R ++ [e])) := by
  rw [← List.append_assoc]; exact (List.perm_append_singleton _ _).symm
end Go.AM

set_option linter.unusedVariables false
set_option linter.unusedSimpArgs false
namespace Go.AM
attribute [-simp] List.length_flatten List.map_flatten List.map_take List.map_map List.flatten_append
/-! A cursor that can't go on stays. -/
theorem stuck_sees {c : Cur} {b : UInt8} (h : ¬ c.e = 0) : ¬ seesC c b = true := fun h' => h (sees_lt h').1
theorem stuck_fail {c : Cur} {e : Int} (h : ¬ c.e = 0) : failC c e = c := by rw [failC, if_neg h]
theorem stuck_must {c : Cur} {b : UInt8} (h : ¬ c.e = 0) : mustC c b = c := by
  rw [mustC, if_neg (stuck_sees h), take_no (stuck_sees h), stuck_fail h]
theorem stuck_name {c : Cur} (h : ¬ c.e = 0) : nameC c = c := by
  have : nameN c = 0 := by rw [nameN, if_neg h]
  rw [nameC, if_pos this, stuck_fail h]
theorem stuck_number {c : Cur} (h : ¬ c.e = 0) : numberC c = c := by rw [numberC, if_neg h]
theorem sees_iff {c : Cur} {b : UInt8} (he : c.e = 0) : seesC c b = true ↔ c.at' < c.s.length ∧ nth c.s c.at' = b := by
  simp [seesC, he]
theorem must_yes {c : Cur} {b : UInt8} (h : seesC c b = true) : mustC c b = { c with at' := c.at' + 1 } := by
  rw [mustC, if_pos h, take_yes h]
theorem must_no {c : Cur} {b : UInt8} (he : c.e = 0) (h : ¬ seesC c b = true) : mustC c b = { c with e := 2 } := by
  rw [mustC, if_neg h, take_no h, failC, if_pos he]
/-- The operation's place is not a large one's. -/
def small (c : Cur) : Prop := ¬ (c.ops = 4096 ∧ (seesC c 119 = true ∨ seesC c 114 = true))
theorem op1_id {c : Cur} (h : small c) : op1 c = c := by rw [op1, if_neg h]
theorem op_large {c : Cur} (he : c.e = 0) (h : ¬ small c) : opC c = { c with ops := c.ops + 1, e := 3 } := by
  have h1 : op1 c = { c with e := 3 } := by rw [op1, if_pos (Decidable.not_not.1 h), failC, if_pos he]
  have hn : ¬ ({ c with e := 3 } : Cur).e = 0 := by simp
  have h3 : op3 c = { c with e := 3 } := by rw [op3, op2, h1, if_neg (stuck_sees hn), take_no (stuck_sees hn), stuck_must hn]
  rw [opC, op7, op6, op5, op4, h3, stuck_must hn, stuck_name hn, stuck_must hn, stuck_number hn]
theorem op_a {c : Cur} (he : c.e = 0) (hs : small c) (h : ¬ (seesC c 119 = true ∨ seesC c 114 = true)) : opC c = { c with ops := c.ops + 1, e := 2 } := by
  have hn : ¬ ({ c with e := 2 } : Cur).e = 0 := by simp
  have h1 : ¬ seesC c 119 = true := fun h' => h (.inl h')
  have h2 : ¬ seesC c 114 = true := fun h' => h (.inr h')
  have h3 : op3 c = { c with e := 2 } := by rw [op3, op2, op1_id hs, if_neg h1, take_no h1, must_no he h2]
  rw [opC, op7, op6, op5, op4, h3, stuck_must hn, stuck_name hn, stuck_must hn, stuck_number hn]
theorem op_b {c : Cur} (hs : small c) (h : seesC c 119 = true ∨ seesC c 114 = true) : op3 c = { c with at' := c.at' + 1 } := by
  rw [op3, op2, op1_id hs]
  by_cases h1 : seesC c 119 = true
  · rw [if_pos h1, take_yes h1]
  · rw [if_neg h1, take_no h1, must_yes (h.resolve_left h1)]
theorem op_c {c : Cur} (he : c.e = 0) (hs : small c) (h : seesC c 119 = true ∨ seesC c 114 = true) (h2 : ¬ seesC { c with at' := c.at' + 1 } 58 = true) : opC c = { c with at' := c.at' + 1, ops := c.ops + 1, e := 2 } := by
  have hn : ¬ ({ c with at' := c.at' + 1, e := 2 } : Cur).e = 0 := by simp
  have h4 : op4 c = { c with at' := c.at' + 1, e := 2 } := by rw [op4, op_b hs h, must_no (by exact he) h2]
  rw [opC, op7, op6, op5, h4, stuck_name hn, stuck_must hn, stuck_number hn]
theorem op_d {c : Cur} (hs : small c) (h : seesC c 119 = true ∨ seesC c 114 = true) (h2 : seesC { c with at' := c.at' + 1 } 58 = true) : op4 c = { c with at' := c.at' + 2 } := by
  rw [op4, op_b hs h, must_yes h2]
/-- How long the name is. -/
def nmL (s : List UInt8) (a : Nat) : Nat := min 8 ((s.drop a).takeWhile low).length
theorem nameN_eq {c : Cur} (he : c.e = 0) : nameN c = nmL c.s c.at' := by rw [nameN, if_pos he, nmL]
theorem op_e {c : Cur} {n : Nat} (he : c.e = 0) (hs : small c) (h : seesC c 119 = true ∨ seesC c 114 = true) (h2 : seesC { c with at' := c.at' + 1 } 58 = true) (hn : nmL c.s (c.at' + 2) = n)
    (h3 : n = 0 ∨ ¬ seesC { c with at' := c.at' + 2 + n } 61 = true) : opC c = { c with at' := c.at' + 2 + n, ops := c.ops + 1, e := 2 } := by
  have hN : nameN (op4 c) = n := by rw [op_d hs h h2, nameN_eq (by exact he)]; exact hn
  have hx : ¬ ({ c with at' := c.at' + 2 + n, e := 2 } : Cur).e = 0 := by simp
  have h6 : op6 c = { c with at' := c.at' + 2 + n, e := 2 } := by
    rw [op6, op5, nameC, hN, op_d hs h h2]
    by_cases h0 : n = 0
    · subst h0
      rw [if_pos rfl, failC, if_pos (by exact he), stuck_must (by simp)]
    · rw [if_neg h0, must_no (by exact he) (h3.resolve_left h0)]
  rw [opC, op7, h6, stuck_number hx]
theorem op_f {c : Cur} {n : Nat} (he : c.e = 0) (hs : small c) (h : seesC c 119 = true ∨ seesC c 114 = true) (h2 : seesC { c with at' := c.at' + 1 } 58 = true) (hn : nmL c.s (c.at' + 2) = n)
    (h0 : ¬ n = 0) (h3 : seesC { c with at' := c.at' + 2 + n } 61 = true) : op6 c = { c with at' := c.at' + 2 + n + 1 } ∧ opV c = ⟨seesC c 119, (c.s.drop (c.at' + 2)).take n, numberV { c with at' := c.at' + 2 + n + 1 }⟩ := by
  have hN : nameN (op4 c) = n := by rw [op_d hs h h2, nameN_eq (by exact he)]; exact hn
  have h6 : op6 c = { c with at' := c.at' + 2 + n + 1 } := by
    rw [op6, op5, nameC, hN, op_d hs h h2, if_neg h0, must_yes h3]
  exact ⟨h6, by rw [opV, h6, hN, op_d hs h h2, op1_id hs]⟩
theorem op_g {c c6 : Cur} {g : Int × Int} (he : c6.e = 0) (h6 : op6 c = c6) (hg : getS (numT c6) = g) (h : ¬ g.2 = 0) : opC c = { c6 with ops := c6.ops + 1, e := g.2 } := by
  rw [opC, op7, h6, numberC, if_pos he, hg, if_neg h, failC, if_pos he]
theorem op_h {c c6 : Cur} {g : Int × Int} {k : Nat} (he : c6.e = 0) (h6 : op6 c = c6) (hg : getS (numT c6) = g) (hk : spanI c6.s c6.at' = k) (h : g.2 = 0) : opC c = { c6 with at' := c6.at' + k, ops := c6.ops + 1 } ∧ numberV c6 = g.1 := by
  refine ⟨?_, by rw [numberV, if_pos he, hg, if_pos h]⟩
  rw [opC, op7, h6, numberC, if_pos he, hg, if_pos h, hk]; rfl
end Go.AM

set_option linter.unusedVariables false
set_option linter.unusedSimpArgs false
namespace Go.AM
attribute [-simp] List.length_flatten List.map_flatten List.map_take List.map_map List.flatten_append
def oneV (c : Cur) : V := if (opC c).e = 0 then .tup [eOp (opV c), .int .i64 ((opC c).at' : Nat), .int .i64 0] else .tup [eOp ⟨false, [], 0⟩, .int .i64 ((opC c).at' : Nat), .int .i64 (opC c).e]
theorem u8eq (x b : UInt8) : ((x.toNat : Nat) : Int) = ((b.toNat : Nat) : Int) ↔ x = b := ⟨fun h => UInt8.toNat_inj.1 (by omega), fun h => by rw [h]⟩
theorem sees_i {s : List UInt8} {a k : Nat} {b : UInt8} (hlt : a < s.length) : seesC ⟨s, a, k, 0⟩ b = true ↔ ((nth s a).toNat : Int) = ((b.toNat : Nat) : Int) := by
  rw [sees_iff rfl, u8eq]; exact ⟨fun h => h.2, fun h => ⟨hlt, h⟩⟩
theorem nm_end {s : List UInt8} {b j : Nat} (hj8 : j ≤ 8) (hjl : j ≤ (s.drop b).length) (hall : ((s.drop b).take j).all low = true)
    (h : ¬ ((((j : Int) < 8 ∧ ((b + j : Nat) : Int) < (s.length : Int)) ∧ 97 ≤ ((nth s (b + j)).toNat : Int)) ∧ ((nth s (b + j)).toNat : Int) ≤ 122)) : nmL s b = j := by
  have := name_end (c := ⟨s, b, 0, 0⟩) hj8 hjl (.inr rfl) hall (by simp only; omega)
  rw [nameN_eq rfl] at this; exact this
set_option maxHeartbeats 4000000 in
instance ref07_one (s : List UInt8) (a : Nat) : PCon T0 n.ref07_one [.str s, .int .i64 (a : Nat)] false (a ≤ s.length ∧ s.length ≤ 1048576) (oneV ⟨s, a, 0, 0⟩) := ⟨fun ⟨ha, hb⟩ => by
  have sm : small ⟨s, a, 0, 0⟩ := fun h => by simp at h
  refine pc tabOk ?_
  repeat' first | (apply dr_fin; (focus exact xx)) | (apply dr_gt; (focus exact xx)) | (apply dr_gf; (focus exact xx); (focus first | exact .inl rfl | exact .inr rfl); focus (first | exact InD.no | (apply InD.so; (focus exact xx)))) | (apply dr_v; focus (apply DV.mk; (focus exact RF.mk rfl); (focus exact RF.mk rfl); (focus exact RF.mk rfl); (focus exact RF.mk rfl); (focus exact xx); focus (first | exact InD.no | (apply InD.so; (focus exact xx))))) | (apply dr_ve; focus (apply DVE.mk; (focus exact RF.mk rfl); (focus exact RF.mk rfl); (focus exact RF.mk rfl); (focus exact xx); focus (first | exact InD.no | (apply InD.so; (focus exact xx))))) | (apply dr_r; focus (apply DL.mk; (focus exact RF.mk rfl); (focus exact xx); (focus exact xx); focus (first | exact InD.no | (apply InD.so; (focus exact xx))))) | (apply dr_l; (focus exact RF.mk rfl); (focus exact RF.mk rfl); (focus exact RF.mk rfl); (focus exact RF.mk rfl); (focus exact RF.mk rfl)) | (apply dr_e; (focus exact RF.mk rfl); (focus exact RF.mk rfl); (focus exact RF.mk rfl); (focus exact RF.mk rfl)) | (apply rd_e; (focus exact xx); focus (repeat first | exact PO.nil | apply PO.zero | (apply PO.ld; (focus exact xx)))) | (apply rd_l; (focus exact xx)) | refine wh_seq ?_ | refine wh_skip ?_ | refine wh_block ?_ | refine wh_end ?_ | refine wh_exit ?_ | refine wh_ret ?_ | refine bk_norm ?_ | refine bk_exit ?_ | refine bk_ret ?_ | refine fr_exit ?_ | refine fr_ret ?_ | refine lp_exit ?_ | refine lp_ret ?_ | refine jn_exit ?_ | refine jn_ret ?_ | refine bk_other rfl ?_ | (apply wr; focus exact xx) | refine wh_reg ?_ | refine wh_ife ?_ | (apply re; focus exact xx) | (apply ra; (focus exact xx); (focus exact xx); intro _) | (apply r1; (focus exact xx); (focus exact xx); intro _) | (apply rl; (focus exact xx); (focus exact xx); intro _) | (apply rb; (focus exact xx); (focus exact xx); intro _) | (apply rsi; (focus exact xx); (focus exact xx); all_goals try infer_instance) | (apply rsz; (focus exact xx); (focus exact xx); all_goals try infer_instance) | (apply rt; (focus exact xx); (focus exact xx)) | (apply rso; (focus exact xx); (focus exact xx); all_goals try infer_instance) | (apply rmm; (focus exact xx); intro _) | (apply rsb; (focus exact xx); (focus exact xx)) | (apply ru; (focus exact xx); (focus exact xx)) | (apply rm; (focus exact xx); (focus exact xx); intro _) | (apply rk; (focus exact xx); (focus exact xx); intro _) | (apply rcf; (focus exact xx); (focus (apply ACF.mk; (focus exact xx); (focus exact inferInstance); (focus exact xx); (focus exact inferInstance); (focus exact xx); (focus exact rfl)))) | (apply rco; (focus exact xx); (focus (apply ACO.mk; (focus exact xx); (focus exact xx); (focus exact inferInstance); (focus exact xx); (focus exact xx))); intro _) | (apply rc; (focus exact xx); (focus exact xx)) | (apply rk'; (focus exact xx); (focus exact xx))
  ((first | apply wi | apply rf); (focus exact xx); (focus exact xx); all_goals intro _)
  · rename_i h
    repeat' first | (apply dr_fin; (focus exact xx)) | (apply dr_gt; (focus exact xx)) | (apply dr_gf; (focus exact xx); (focus first | exact .inl rfl | exact .inr rfl); focus (first | exact InD.no | (apply InD.so; (focus exact xx)))) | (apply dr_v; focus (apply DV.mk; (focus exact RF.mk rfl); (focus exact RF.mk rfl); (focus exact RF.mk rfl); (focus exact RF.mk rfl); (focus exact xx); focus (first | exact InD.no | (apply InD.so; (focus exact xx))))) | (apply dr_ve; focus (apply DVE.mk; (focus exact RF.mk rfl); (focus exact RF.mk rfl); (focus exact RF.mk rfl); (focus exact xx); focus (first | exact InD.no | (apply InD.so; (focus exact xx))))) | (apply dr_r; focus (apply DL.mk; (focus exact RF.mk rfl); (focus exact xx); (focus exact xx); focus (first | exact InD.no | (apply InD.so; (focus exact xx))))) | (apply dr_l; (focus exact RF.mk rfl); (focus exact RF.mk rfl); (focus exact RF.mk rfl); (focus exact RF.mk rfl); (focus exact RF.mk rfl)) | (apply dr_e; (focus exact RF.mk rfl); (focus exact RF.mk rfl); (focus exact RF.mk rfl); (focus exact RF.mk rfl)) | (apply rd_e; (focus exact xx); focus (repeat first | exact PO.nil | apply PO.zero | (apply PO.ld; (focus exact xx)))) | (apply rd_l; (focus exact xx)) | refine wh_seq ?_ | refine wh_skip ?_ | refine wh_block ?_ | refine wh_end ?_ | refine wh_exit ?_ | refine wh_ret ?_ | refine bk_norm ?_ | refine bk_exit ?_ | refine bk_ret ?_ | refine fr_exit ?_ | refine fr_ret ?_ | refine lp_exit ?_ | refine lp_ret ?_ | refine jn_exit ?_ | refine jn_ret ?_ | refine bk_other rfl ?_ | (apply wr; focus exact xx) | (apply wi; (focus exact xx); (focus exact xx); all_goals intro _; all_goals try first | contradiction | (exfalso; omega) | exact absurd trivial ‹_›) | refine wh_reg ?_ | refine wh_ife ?_ | (apply re; focus exact xx) | (apply rf; (focus exact xx); (focus exact xx); all_goals intro _; all_goals try first | contradiction | (exfalso; omega) | exact absurd trivial ‹_›) | (apply ra; (focus exact xx); (focus exact xx); intro _) | (apply r1; (focus exact xx); (focus exact xx); intro _) | (apply rl; (focus exact xx); (focus exact xx); intro _) | (apply rb; (focus exact xx); (focus exact xx); intro _) | (apply rsi; (focus exact xx); (focus exact xx); all_goals try infer_instance) | (apply rsz; (focus exact xx); (focus exact xx); all_goals try infer_instance) | (apply rt; (focus exact xx); (focus exact xx)) | (apply rso; (focus exact xx); (focus exact xx); all_goals try infer_instance) | (apply rmm; (focus exact xx); intro _) | (apply rsb; (focus exact xx); (focus exact xx)) | (apply ru; (focus exact xx); (focus exact xx)) | (apply rm; (focus exact xx); (focus exact xx); intro _) | (apply rk; (focus exact xx); (focus exact xx); intro _) | (apply rcf; (focus exact xx); (focus (apply ACF.mk; (focus exact xx); (focus exact inferInstance); (focus exact xx); (focus exact inferInstance); (focus exact xx); (focus exact rfl)))) | (apply rco; (focus exact xx); (focus (apply ACO.mk; (focus exact xx); (focus exact xx); (focus exact inferInstance); (focus exact xx); (focus exact xx))); intro _) | (apply rc; (focus exact xx); (focus exact xx)) | (apply rk'; (focus exact xx); (focus exact xx))
    refine fz ?_
    have hC : opC ⟨s, a, 0, 0⟩ = ⟨s, a, 1, 2⟩ := op_a rfl sm (by
      by_cases hlt : a < s.length
      · rw [sees_i hlt, sees_i hlt]; rcases h with h | h
        · omega
        · rintro (h' | h')
          · exact h.1 h'
          · exact h.2 h'
      · rw [sees_iff rfl, sees_iff rfl]; rintro (h' | h') <;> exact hlt h'.1)
    rw [oneV, hC]; rfl
  · rename_i h
    have hlt : a < s.length := by omega
    have hs : seesC ⟨s, a, 0, 0⟩ 119 = true ∨ seesC ⟨s, a, 0, 0⟩ 114 = true := by
      rw [sees_i hlt, sees_i hlt]; 
      show ((nth s a).toNat : Int) = 119 ∨ ((nth s a).toNat : Int) = 114
      omega
    have hw : decide (((nth s a).toNat : Int) = 119) = seesC ⟨s, a, 0, 0⟩ 119 := by
      rw [Bool.eq_iff_iff, decide_eq_true_eq]; exact (sees_i (b := 119) hlt).symm
    repeat' first | (apply dr_fin; (focus exact xx)) | (apply dr_gt; (focus exact xx)) | (apply dr_gf; (focus exact xx); (focus first | exact .inl rfl | exact .inr rfl); focus (first | exact InD.no | (apply InD.so; (focus exact xx)))) | (apply dr_v; focus (apply DV.mk; (focus exact RF.mk rfl); (focus exact RF.mk rfl); (focus exact RF.mk rfl); (focus exact RF.mk rfl); (focus exact xx); focus (first | exact InD.no | (apply InD.so; (focus exact xx))))) | (apply dr_ve; focus (apply DVE.mk; (focus exact RF.mk rfl); (focus exact RF.mk rfl); (focus exact RF.mk rfl); (focus exact xx); focus (first | exact InD.no | (apply InD.so; (focus exact xx))))) | (apply dr_r; focus (apply DL.mk; (focus exact RF.mk rfl); (focus exact xx); (focus exact xx); focus (first | exact InD.no | (apply InD.so; (focus exact xx))))) | (apply dr_l; (focus exact RF.mk rfl); (focus exact RF.mk rfl); (focus exact RF.mk rfl); (focus exact RF.mk rfl); (focus exact RF.mk rfl)) | (apply dr_e; (focus exact RF.mk rfl); (focus exact RF.mk rfl); (focus exact RF.mk rfl); (focus exact RF.mk rfl)) | (apply rd_e; (focus exact xx); focus (repeat first | exact PO.nil | apply PO.zero | (apply PO.ld; (focus exact xx)))) | (apply rd_l; (focus exact xx)) | refine wh_seq ?_ | refine wh_skip ?_ | refine wh_block ?_ | refine wh_end ?_ | refine wh_exit ?_ | refine wh_ret ?_ | refine bk_norm ?_ | refine bk_exit ?_ | refine bk_ret ?_ | refine fr_exit ?_ | refine fr_ret ?_ | refine lp_exit ?_ | refine lp_ret ?_ | refine jn_exit ?_ | refine jn_ret ?_ | refine bk_other rfl ?_ | (apply wr; focus exact xx) | refine wh_reg ?_ | refine wh_ife ?_ | (apply re; focus exact xx) | (apply ra; (focus exact xx); (focus exact xx); intro _) | (apply r1; (focus exact xx); (focus exact xx); intro _) | (apply rl; (focus exact xx); (focus exact xx); intro _) | (apply rb; (focus exact xx); (focus exact xx); intro _) | (apply rsi; (focus exact xx); (focus exact xx); all_goals try infer_instance) | (apply rsz; (focus exact xx); (focus exact xx); all_goals try infer_instance) | (apply rt; (focus exact xx); (focus exact xx)) | (apply rso; (focus exact xx); (focus exact xx); all_goals try infer_instance) | (apply rmm; (focus exact xx); intro _) | (apply rsb; (focus exact xx); (focus exact xx)) | (apply ru; (focus exact xx); (focus exact xx)) | (apply rm; (focus exact xx); (focus exact xx); intro _) | (apply rk; (focus exact xx); (focus exact xx); intro _) | (apply rcf; (focus exact xx); (focus (apply ACF.mk; (focus exact xx); (focus exact inferInstance); (focus exact xx); (focus exact inferInstance); (focus exact xx); (focus exact rfl)))) | (apply rco; (focus exact xx); (focus (apply ACO.mk; (focus exact xx); (focus exact xx); (focus exact inferInstance); (focus exact xx); (focus exact xx))); intro _) | (apply rc; (focus exact xx); (focus exact xx)) | (apply rk'; (focus exact xx); (focus exact xx))
    rename_i i4 i7
    rw [hw]
    ((first | apply wi | apply rf); (focus exact xx); (focus exact xx); all_goals intro _)
    · rename_i h2
      repeat' first | (apply dr_fin; (focus exact xx)) | (apply dr_gt; (focus exact xx)) | (apply dr_gf; (focus exact xx); (focus first | exact .inl rfl | exact .inr rfl); focus (first | exact InD.no | (apply InD.so; (focus exact xx)))) | (apply dr_v; focus (apply DV.mk; (focus exact RF.mk rfl); (focus exact RF.mk rfl); (focus exact RF.mk rfl); (focus exact RF.mk rfl); (focus exact xx); focus (first | exact InD.no | (apply InD.so; (focus exact xx))))) | (apply dr_ve; focus (apply DVE.mk; (focus exact RF.mk rfl); (focus exact RF.mk rfl); (focus exact RF.mk rfl); (focus exact xx); focus (first | exact InD.no | (apply InD.so; (focus exact xx))))) | (apply dr_r; focus (apply DL.mk; (focus exact RF.mk rfl); (focus exact xx); (focus exact xx); focus (first | exact InD.no | (apply InD.so; (focus exact xx))))) | (apply dr_l; (focus exact RF.mk rfl); (focus exact RF.mk rfl); (focus exact RF.mk rfl); (focus exact RF.mk rfl); (focus exact RF.mk rfl)) | (apply dr_e; (focus exact RF.mk rfl); (focus exact RF.mk rfl); (focus exact RF.mk rfl); (focus exact RF.mk rfl)) | (apply rd_e; (focus exact xx); focus (repeat first | exact PO.nil | apply PO.zero | (apply PO.ld; (focus exact xx)))) | (apply rd_l; (focus exact xx)) | refine wh_seq ?_ | refine wh_skip ?_ | refine wh_block ?_ | refine wh_end ?_ | refine wh_exit ?_ | refine wh_ret ?_ | refine bk_norm ?_ | refine bk_exit ?_ | refine bk_ret ?_ | refine fr_exit ?_ | refine fr_ret ?_ | refine lp_exit ?_ | refine lp_ret ?_ | refine jn_exit ?_ | refine jn_ret ?_ | refine bk_other rfl ?_ | (apply wr; focus exact xx) | (apply wi; (focus exact xx); (focus exact xx); all_goals intro _; all_goals try first | contradiction | (exfalso; omega) | exact absurd trivial ‹_›) | refine wh_reg ?_ | refine wh_ife ?_ | (apply re; focus exact xx) | (apply rf; (focus exact xx); (focus exact xx); all_goals intro _; all_goals try first | contradiction | (exfalso; omega) | exact absurd trivial ‹_›) | (apply ra; (focus exact xx); (focus exact xx); intro _) | (apply r1; (focus exact xx); (focus exact xx); intro _) | (apply rl; (focus exact xx); (focus exact xx); intro _) | (apply rb; (focus exact xx); (focus exact xx); intro _) | (apply rsi; (focus exact xx); (focus exact xx); all_goals try infer_instance) | (apply rsz; (focus exact xx); (focus exact xx); all_goals try infer_instance) | (apply rt; (focus exact xx); (focus exact xx)) | (apply rso; (focus exact xx); (focus exact xx); all_goals try infer_instance) | (apply rmm; (focus exact xx); intro _) | (apply rsb; (focus exact xx); (focus exact xx)) | (apply ru; (focus exact xx); (focus exact xx)) | (apply rm; (focus exact xx); (focus exact xx); intro _) | (apply rk; (focus exact xx); (focus exact xx); intro _) | (apply rcf; (focus exact xx); (focus (apply ACF.mk; (focus exact xx); (focus exact inferInstance); (focus exact xx); (focus exact inferInstance); (focus exact xx); (focus exact rfl)))) | (apply rco; (focus exact xx); (focus (apply ACO.mk; (focus exact xx); (focus exact xx); (focus exact inferInstance); (focus exact xx); (focus exact xx))); intro _) | (apply rc; (focus exact xx); (focus exact xx)) | (apply rk'; (focus exact xx); (focus exact xx))
      refine fz ?_
      have hC : opC ⟨s, a, 0, 0⟩ = ⟨s, a + 1, 1, 2⟩ := op_c rfl sm hs (by
        by_cases hlt2 : a + 1 < s.length
        · rw [sees_i hlt2]; rcases h2 with h2 | h2
          · omega
          · exact h2
        · rw [sees_iff rfl]; exact fun h' => hlt2 h'.1)
      rw [oneV, hC]; rfl
    rename_i h2
    have hlt2 : a + 1 < s.length := by omega
    have hs2 : seesC ⟨s, a + 1, 0, 0⟩ 58 = true := (sees_i hlt2).2 (by show ((nth s (a + 1)).toNat : Int) = 58; omega)
    repeat' first | (apply dr_fin; (focus exact xx)) | (apply dr_gt; (focus exact xx)) | (apply dr_gf; (focus exact xx); (focus first | exact .inl rfl | exact .inr rfl); focus (first | exact InD.no | (apply InD.so; (focus exact xx)))) | (apply dr_v; focus (apply DV.mk; (focus exact RF.mk rfl); (focus exact RF.mk rfl); (focus exact RF.mk rfl); (focus exact RF.mk rfl); (focus exact xx); focus (first | exact InD.no | (apply InD.so; (focus exact xx))))) | (apply dr_ve; focus (apply DVE.mk; (focus exact RF.mk rfl); (focus exact RF.mk rfl); (focus exact RF.mk rfl); (focus exact xx); focus (first | exact InD.no | (apply InD.so; (focus exact xx))))) | (apply dr_r; focus (apply DL.mk; (focus exact RF.mk rfl); (focus exact xx); (focus exact xx); focus (first | exact InD.no | (apply InD.so; (focus exact xx))))) | (apply dr_l; (focus exact RF.mk rfl); (focus exact RF.mk rfl); (focus exact RF.mk rfl); (focus exact RF.mk rfl); (focus exact RF.mk rfl)) | (apply dr_e; (focus exact RF.mk rfl); (focus exact RF.mk rfl); (focus exact RF.mk rfl); (focus exact RF.mk rfl)) | (apply rd_e; (focus exact xx); focus (repeat first | exact PO.nil | apply PO.zero | (apply PO.ld; (focus exact xx)))) | (apply rd_l; (focus exact xx)) | refine wh_seq ?_ | refine wh_skip ?_ | refine wh_block ?_ | refine wh_end ?_ | refine wh_exit ?_ | refine wh_ret ?_ | refine bk_norm ?_ | refine bk_exit ?_ | refine bk_ret ?_ | refine fr_exit ?_ | refine fr_ret ?_ | refine lp_exit ?_ | refine lp_ret ?_ | refine jn_exit ?_ | refine jn_ret ?_ | refine bk_other rfl ?_ | (apply wr; focus exact xx) | (apply wi; (focus exact xx); (focus exact xx); all_goals intro _; all_goals try first | contradiction | (exfalso; omega) | exact absurd trivial ‹_›) | refine wh_reg ?_ | refine wh_ife ?_ | (apply re; focus exact xx) | (apply rf; (focus exact xx); (focus exact xx); all_goals intro _; all_goals try first | contradiction | (exfalso; omega) | exact absurd trivial ‹_›) | (apply ra; (focus exact xx); (focus exact xx); intro _) | (apply r1; (focus exact xx); (focus exact xx); intro _) | (apply rl; (focus exact xx); (focus exact xx); intro _) | (apply rb; (focus exact xx); (focus exact xx); intro _) | (apply rsi; (focus exact xx); (focus exact xx); all_goals try infer_instance) | (apply rsz; (focus exact xx); (focus exact xx); all_goals try infer_instance) | (apply rt; (focus exact xx); (focus exact xx)) | (apply rso; (focus exact xx); (focus exact xx); all_goals try infer_instance) | (apply rmm; (focus exact xx); intro _) | (apply rsb; (focus exact xx); (focus exact xx)) | (apply ru; (focus exact xx); (focus exact xx)) | (apply rm; (focus exact xx); (focus exact xx); intro _) | (apply rk; (focus exact xx); (focus exact xx); intro _) | (apply rcf; (focus exact xx); (focus (apply ACF.mk; (focus exact xx); (focus exact inferInstance); (focus exact xx); (focus exact inferInstance); (focus exact xx); (focus exact rfl)))) | (apply rco; (focus exact xx); (focus (apply ACO.mk; (focus exact xx); (focus exact xx); (focus exact inferInstance); (focus exact xx); (focus exact xx))); intro _) | (apply rc; (focus exact xx); (focus exact xx)) | (apply rk'; (focus exact xx); (focus exact xx))
    have hdl : (s.drop (a + 2)).length = s.length - (a + 2) := List.length_drop
    refine wh_loop (fun m A L => ∃ j : Nat, m = 8 - j ∧ j ≤ 8 ∧ j ≤ (s.drop (a + 2)).length ∧ ((s.drop (a + 2)).take j).all low = true ∧ A = [(0, .str s), (1, .int .i64 ((a + 2 : Nat) : Int)), (4, .ptr i4 3 0 0), (7, .ptr i7 3 0 0), (8, .int .i64 (j : Nat))] ∧ L = [.ob i7 (.row 3 true [.agg [.bool (seesC ⟨s, a, 0, 0⟩ 119), .str [], .int .i64 0]]), .ob i4 (.row 3 true [.agg [.bool false, .str [], .int .i64 0]])]) _ ⟨0, rfl, by omega, by omega, by simp, rfl, rfl⟩ ?_
    rintro m A L ⟨j, rfl, hj8, hjl, hall, rfl, rfl⟩
    have hnd : nth (s.drop (a + 2)) j = nth s (a + 2 + j) := nth_drop
    repeat' first | (apply dr_fin; (focus exact xx)) | (apply dr_gt; (focus exact xx)) | (apply dr_gf; (focus exact xx); (focus first | exact .inl rfl | exact .inr rfl); focus (first | exact InD.no | (apply InD.so; (focus exact xx)))) | (apply dr_v; focus (apply DV.mk; (focus exact RF.mk rfl); (focus exact RF.mk rfl); (focus exact RF.mk rfl); (focus exact RF.mk rfl); (focus exact xx); focus (first | exact InD.no | (apply InD.so; (focus exact xx))))) | (apply dr_ve; focus (apply DVE.mk; (focus exact RF.mk rfl); (focus exact RF.mk rfl); (focus exact RF.mk rfl); (focus exact xx); focus (first | exact InD.no | (apply InD.so; (focus exact xx))))) | (apply dr_r; focus (apply DL.mk; (focus exact RF.mk rfl); (focus exact xx); (focus exact xx); focus (first | exact InD.no | (apply InD.so; (focus exact xx))))) | (apply dr_l; (focus exact RF.mk rfl); (focus exact RF.mk rfl); (focus exact RF.mk rfl); (focus exact RF.mk rfl); (focus exact RF.mk rfl)) | (apply dr_e; (focus exact RF.mk rfl); (focus exact RF.mk rfl); (focus exact RF.mk rfl); (focus exact RF.mk rfl)) | (apply rd_e; (focus exact xx); focus (repeat first | exact PO.nil | apply PO.zero | (apply PO.ld; (focus exact xx)))) | (apply rd_l; (focus exact xx)) | refine wh_seq ?_ | refine wh_skip ?_ | refine wh_block ?_ | refine wh_end ?_ | refine wh_exit ?_ | refine wh_ret ?_ | refine bk_norm ?_ | refine bk_exit ?_ | refine bk_ret ?_ | refine fr_exit ?_ | refine fr_ret ?_ | refine lp_exit ?_ | refine lp_ret ?_ | refine jn_exit ?_ | refine jn_ret ?_ | refine bk_other rfl ?_ | (apply wr; focus exact xx) | refine wh_reg ?_ | refine wh_ife ?_ | (apply re; focus exact xx) | (apply ra; (focus exact xx); (focus exact xx); intro _) | (apply r1; (focus exact xx); (focus exact xx); intro _) | (apply rl; (focus exact xx); (focus exact xx); intro _) | (apply rb; (focus exact xx); (focus exact xx); intro _) | (apply rsi; (focus exact xx); (focus exact xx); all_goals try infer_instance) | (apply rsz; (focus exact xx); (focus exact xx); all_goals try infer_instance) | (apply rt; (focus exact xx); (focus exact xx)) | (apply rso; (focus exact xx); (focus exact xx); all_goals try infer_instance) | (apply rmm; (focus exact xx); intro _) | (apply rsb; (focus exact xx); (focus exact xx)) | (apply ru; (focus exact xx); (focus exact xx)) | (apply rm; (focus exact xx); (focus exact xx); intro _) | (apply rk; (focus exact xx); (focus exact xx); intro _) | (apply rcf; (focus exact xx); (focus (apply ACF.mk; (focus exact xx); (focus exact inferInstance); (focus exact xx); (focus exact inferInstance); (focus exact xx); (focus exact rfl)))) | (apply rco; (focus exact xx); (focus (apply ACO.mk; (focus exact xx); (focus exact xx); (focus exact inferInstance); (focus exact xx); (focus exact xx))); intro _) | (apply rc; (focus exact xx); (focus exact xx)) | (apply rk'; (focus exact xx); (focus exact xx))
    ((first | apply wi | apply rf); (focus exact xx); (focus exact xx); all_goals intro _)
    · rename_i h3
      repeat' first | (apply dr_fin; (focus exact xx)) | (apply dr_gt; (focus exact xx)) | (apply dr_gf; (focus exact xx); (focus first | exact .inl rfl | exact .inr rfl); focus (first | exact InD.no | (apply InD.so; (focus exact xx)))) | (apply dr_v; focus (apply DV.mk; (focus exact RF.mk rfl); (focus exact RF.mk rfl); (focus exact RF.mk rfl); (focus exact RF.mk rfl); (focus exact xx); focus (first | exact InD.no | (apply InD.so; (focus exact xx))))) | (apply dr_ve; focus (apply DVE.mk; (focus exact RF.mk rfl); (focus exact RF.mk rfl); (focus exact RF.mk rfl); (focus exact xx); focus (first | exact InD.no | (apply InD.so; (focus exact xx))))) | (apply dr_r; focus (apply DL.mk; (focus exact RF.mk rfl); (focus exact xx); (focus exact xx); focus (first | exact InD.no | (apply InD.so; (focus exact xx))))) | (apply dr_l; (focus exact RF.mk rfl); (focus exact RF.mk rfl); (focus exact RF.mk rfl); (focus exact RF.mk rfl); (focus exact RF.mk rfl)) | (apply dr_e; (focus exact RF.mk rfl); (focus exact RF.mk rfl); (focus exact RF.mk rfl); (focus exact RF.mk rfl)) | (apply rd_e; (focus exact xx); focus (repeat first | exact PO.nil | apply PO.zero | (apply PO.ld; (focus exact xx)))) | (apply rd_l; (focus exact xx)) | refine wh_seq ?_ | refine wh_skip ?_ | refine wh_block ?_ | refine wh_end ?_ | refine wh_exit ?_ | refine wh_ret ?_ | refine bk_norm ?_ | refine bk_exit ?_ | refine bk_ret ?_ | refine fr_exit ?_ | refine fr_ret ?_ | refine lp_exit ?_ | refine lp_ret ?_ | refine jn_exit ?_ | refine jn_ret ?_ | refine bk_other rfl ?_ | (apply wr; focus exact xx) | (apply wi; (focus exact xx); (focus exact xx); all_goals intro _; all_goals try first | contradiction | (exfalso; omega) | exact absurd trivial ‹_›) | refine wh_reg ?_ | refine wh_ife ?_ | (apply re; focus exact xx) | (apply rf; (focus exact xx); (focus exact xx); all_goals intro _; all_goals try first | contradiction | (exfalso; omega) | exact absurd trivial ‹_›) | (apply ra; (focus exact xx); (focus exact xx); intro _) | (apply r1; (focus exact xx); (focus exact xx); intro _) | (apply rl; (focus exact xx); (focus exact xx); intro _) | (apply rb; (focus exact xx); (focus exact xx); intro _) | (apply rsi; (focus exact xx); (focus exact xx); all_goals try infer_instance) | (apply rsz; (focus exact xx); (focus exact xx); all_goals try infer_instance) | (apply rt; (focus exact xx); (focus exact xx)) | (apply rso; (focus exact xx); (focus exact xx); all_goals try infer_instance) | (apply rmm; (focus exact xx); intro _) | (apply rsb; (focus exact xx); (focus exact xx)) | (apply ru; (focus exact xx); (focus exact xx)) | (apply rm; (focus exact xx); (focus exact xx); intro _) | (apply rk; (focus exact xx); (focus exact xx); intro _) | (apply rcf; (focus exact xx); (focus (apply ACF.mk; (focus exact xx); (focus exact inferInstance); (focus exact xx); (focus exact inferInstance); (focus exact xx); (focus exact rfl)))) | (apply rco; (focus exact xx); (focus (apply ACO.mk; (focus exact xx); (focus exact xx); (focus exact inferInstance); (focus exact xx); (focus exact xx))); intro _) | (apply rc; (focus exact xx); (focus exact xx)) | (apply rk'; (focus exact xx); (focus exact xx))
      refine ⟨_, _, ?_, sbc, j + 1, rfl, by omega, by omega, ?_, rfl, rfl⟩
      · omega
      · rw [all_nth (by omega), hall, hnd, low]; simp; omega
    rename_i h3
    have hn := nm_end hj8 hjl hall h3
    repeat' first | (apply dr_fin; (focus exact xx)) | (apply dr_gt; (focus exact xx)) | (apply dr_gf; (focus exact xx); (focus first | exact .inl rfl | exact .inr rfl); focus (first | exact InD.no | (apply InD.so; (focus exact xx)))) | (apply dr_v; focus (apply DV.mk; (focus exact RF.mk rfl); (focus exact RF.mk rfl); (focus exact RF.mk rfl); (focus exact RF.mk rfl); (focus exact xx); focus (first | exact InD.no | (apply InD.so; (focus exact xx))))) | (apply dr_ve; focus (apply DVE.mk; (focus exact RF.mk rfl); (focus exact RF.mk rfl); (focus exact RF.mk rfl); (focus exact xx); focus (first | exact InD.no | (apply InD.so; (focus exact xx))))) | (apply dr_r; focus (apply DL.mk; (focus exact RF.mk rfl); (focus exact xx); (focus exact xx); focus (first | exact InD.no | (apply InD.so; (focus exact xx))))) | (apply dr_l; (focus exact RF.mk rfl); (focus exact RF.mk rfl); (focus exact RF.mk rfl); (focus exact RF.mk rfl); (focus exact RF.mk rfl)) | (apply dr_e; (focus exact RF.mk rfl); (focus exact RF.mk rfl); (focus exact RF.mk rfl); (focus exact RF.mk rfl)) | (apply rd_e; (focus exact xx); focus (repeat first | exact PO.nil | apply PO.zero | (apply PO.ld; (focus exact xx)))) | (apply rd_l; (focus exact xx)) | refine wh_seq ?_ | refine wh_skip ?_ | refine wh_block ?_ | refine wh_end ?_ | refine wh_exit ?_ | refine wh_ret ?_ | refine bk_norm ?_ | refine bk_exit ?_ | refine bk_ret ?_ | refine fr_exit ?_ | refine fr_ret ?_ | refine lp_exit ?_ | refine lp_ret ?_ | refine jn_exit ?_ | refine jn_ret ?_ | refine bk_other rfl ?_ | (apply wr; focus exact xx) | refine wh_reg ?_ | refine wh_ife ?_ | (apply re; focus exact xx) | (apply ra; (focus exact xx); (focus exact xx); intro _) | (apply r1; (focus exact xx); (focus exact xx); intro _) | (apply rl; (focus exact xx); (focus exact xx); intro _) | (apply rb; (focus exact xx); (focus exact xx); intro _) | (apply rsi; (focus exact xx); (focus exact xx); all_goals try infer_instance) | (apply rsz; (focus exact xx); (focus exact xx); all_goals try infer_instance) | (apply rt; (focus exact xx); (focus exact xx)) | (apply rso; (focus exact xx); (focus exact xx); all_goals try infer_instance) | (apply rmm; (focus exact xx); intro _) | (apply rsb; (focus exact xx); (focus exact xx)) | (apply ru; (focus exact xx); (focus exact xx)) | (apply rm; (focus exact xx); (focus exact xx); intro _) | (apply rk; (focus exact xx); (focus exact xx); intro _) | (apply rcf; (focus exact xx); (focus (apply ACF.mk; (focus exact xx); (focus exact inferInstance); (focus exact xx); (focus exact inferInstance); (focus exact xx); (focus exact rfl)))) | (apply rco; (focus exact xx); (focus (apply ACO.mk; (focus exact xx); (focus exact xx); (focus exact inferInstance); (focus exact xx); (focus exact xx))); intro _) | (apply rc; (focus exact xx); (focus exact xx)) | (apply rk'; (focus exact xx); (focus exact xx))
    have hT : List.take (((a + 2 + j : Nat) : Int).toNat - ((a + 2 : Nat) : Int).toNat) (List.drop ((a + 2 : Nat) : Int).toNat s) = (s.drop (a + 2)).take j := by
      rw [Int.toNat_natCast, Int.toNat_natCast, Nat.add_sub_cancel_left]
    rw [hT]
    ((first | apply wi | apply rf); (focus exact xx); (focus exact xx); all_goals intro _)
    · rename_i h4
      repeat' first | (apply dr_fin; (focus exact xx)) | (apply dr_gt; (focus exact xx)) | (apply dr_gf; (focus exact xx); (focus first | exact .inl rfl | exact .inr rfl); focus (first | exact InD.no | (apply InD.so; (focus exact xx)))) | (apply dr_v; focus (apply DV.mk; (focus exact RF.mk rfl); (focus exact RF.mk rfl); (focus exact RF.mk rfl); (focus exact RF.mk rfl); (focus exact xx); focus (first | exact InD.no | (apply InD.so; (focus exact xx))))) | (apply dr_ve; focus (apply DVE.mk; (focus exact RF.mk rfl); (focus exact RF.mk rfl); (focus exact RF.mk rfl); (focus exact xx); focus (first | exact InD.no | (apply InD.so; (focus exact xx))))) | (apply dr_r; focus (apply DL.mk; (focus exact RF.mk rfl); (focus exact xx); (focus exact xx); focus (first | exact InD.no | (apply InD.so; (focus exact xx))))) | (apply dr_l; (focus exact RF.mk rfl); (focus exact RF.mk rfl); (focus exact RF.mk rfl); (focus exact RF.mk rfl); (focus exact RF.mk rfl)) | (apply dr_e; (focus exact RF.mk rfl); (focus exact RF.mk rfl); (focus exact RF.mk rfl); (focus exact RF.mk rfl)) | (apply rd_e; (focus exact xx); focus (repeat first | exact PO.nil | apply PO.zero | (apply PO.ld; (focus exact xx)))) | (apply rd_l; (focus exact xx)) | refine wh_seq ?_ | refine wh_skip ?_ | refine wh_block ?_ | refine wh_end ?_ | refine wh_exit ?_ | refine wh_ret ?_ | refine bk_norm ?_ | refine bk_exit ?_ | refine bk_ret ?_ | refine fr_exit ?_ | refine fr_ret ?_ | refine lp_exit ?_ | refine lp_ret ?_ | refine jn_exit ?_ | refine jn_ret ?_ | refine bk_other rfl ?_ | (apply wr; focus exact xx) | (apply wi; (focus exact xx); (focus exact xx); all_goals intro _; all_goals try first | contradiction | (exfalso; omega) | exact absurd trivial ‹_›) | refine wh_reg ?_ | refine wh_ife ?_ | (apply re; focus exact xx) | (apply rf; (focus exact xx); (focus exact xx); all_goals intro _; all_goals try first | contradiction | (exfalso; omega) | exact absurd trivial ‹_›) | (apply ra; (focus exact xx); (focus exact xx); intro _) | (apply r1; (focus exact xx); (focus exact xx); intro _) | (apply rl; (focus exact xx); (focus exact xx); intro _) | (apply rb; (focus exact xx); (focus exact xx); intro _) | (apply rsi; (focus exact xx); (focus exact xx); all_goals try infer_instance) | (apply rsz; (focus exact xx); (focus exact xx); all_goals try infer_instance) | (apply rt; (focus exact xx); (focus exact xx)) | (apply rso; (focus exact xx); (focus exact xx); all_goals try infer_instance) | (apply rmm; (focus exact xx); intro _) | (apply rsb; (focus exact xx); (focus exact xx)) | (apply ru; (focus exact xx); (focus exact xx)) | (apply rm; (focus exact xx); (focus exact xx); intro _) | (apply rk; (focus exact xx); (focus exact xx); intro _) | (apply rcf; (focus exact xx); (focus (apply ACF.mk; (focus exact xx); (focus exact inferInstance); (focus exact xx); (focus exact inferInstance); (focus exact xx); (focus exact rfl)))) | (apply rco; (focus exact xx); (focus (apply ACO.mk; (focus exact xx); (focus exact xx); (focus exact inferInstance); (focus exact xx); (focus exact xx))); intro _) | (apply rc; (focus exact xx); (focus exact xx)) | (apply rk'; (focus exact xx); (focus exact xx))
      refine fz ?_
      have hC : opC ⟨s, a, 0, 0⟩ = ⟨s, a + 2 + j, 1, 2⟩ := op_e rfl sm hs hs2 hn (by
        by_cases h0 : j = 0
        · exact .inl h0
        · right
          by_cases hlt4 : a + 2 + j < s.length
          · rw [sees_i hlt4]
            rcases h4 with (h4 | h4) | h4
            · omega
            · omega
            · exact h4
          · rw [sees_iff rfl]; exact fun h' => hlt4 h'.1)
      rw [oneV, hC]; rfl
    rename_i h4
    have hlt4 : a + 2 + j < s.length := by omega
    have hj0 : ¬ j = 0 := by omega
    have hs4 : seesC ⟨s, a + 2 + j, 0, 0⟩ 61 = true := (sees_i hlt4).2 (by show ((nth s (a + 2 + j)).toNat : Int) = 61; omega)
    obtain ⟨k, hk, hkl⟩ := span_le s (a + 2 + j + 1) (by omega)
    obtain ⟨g, hg⟩ : ∃ g, getS (numT ⟨s, a + 2 + j + 1, 0, 0⟩) = g := ⟨_, rfl⟩
    have hT : numT ⟨s, a + 2 + j + 1, 0, 0⟩ = (s.drop ((a + 2 + j + 1 : Nat) : Int).toNat).take (((a + 2 + j + 1 + k : Nat) : Int).toNat - ((a + 2 + j + 1 : Nat) : Int).toNat) := by
      rw [numT, hk, Int.toNat_natCast, Int.toNat_natCast, Int.toNat_natCast]; congr 1; omega
    have hTl : (numT ⟨s, a + 2 + j + 1, 0, 0⟩).length ≤ 1048576 := by show ((s.drop (a + 2 + j + 1)).take _).length ≤ _; rw [List.length_take, List.length_drop]; omega
    have c1 : PCon T0 n.ref05_Span [.str s, .int .i64 ((a + 2 + j + 1 : Nat) : Int)] false True (.int .i64 (k : Nat)) := ⟨fun _ => by have := (ref05_Span s ((a + 2 + j + 1 : Nat) : Int)).con hb; rw [hk] at this; exact this⟩
    have c2 : PCon T0 n.ref05_Get [.str ((s.drop ((a + 2 + j + 1 : Nat) : Int).toNat).take (((a + 2 + j + 1 + k : Nat) : Int).toNat - ((a + 2 + j + 1 : Nat) : Int).toNat))] false True (.tup [.int .i64 g.1, .int .i64 g.2]) := ⟨fun _ => by have := (ref05_Get (numT ⟨s, a + 2 + j + 1, 0, 0⟩)).con hTl; rw [hg, hT] at this; exact this⟩
    obtain ⟨h6, hv⟩ := op_f (c := ⟨s, a, 0, 0⟩) rfl sm hs hs2 hn hj0 hs4
    repeat' first | (apply dr_fin; (focus exact xx)) | (apply dr_gt; (focus exact xx)) | (apply dr_gf; (focus exact xx); (focus first | exact .inl rfl | exact .inr rfl); focus (first | exact InD.no | (apply InD.so; (focus exact xx)))) | (apply dr_v; focus (apply DV.mk; (focus exact RF.mk rfl); (focus exact RF.mk rfl); (focus exact RF.mk rfl); (focus exact RF.mk rfl); (focus exact xx); focus (first | exact InD.no | (apply InD.so; (focus exact xx))))) | (apply dr_ve; focus (apply DVE.mk; (focus exact RF.mk rfl); (focus exact RF.mk rfl); (focus exact RF.mk rfl); (focus exact xx); focus (first | exact InD.no | (apply InD.so; (focus exact xx))))) | (apply dr_r; focus (apply DL.mk; (focus exact RF.mk rfl); (focus exact xx); (focus exact xx); focus (first | exact InD.no | (apply InD.so; (focus exact xx))))) | (apply dr_l; (focus exact RF.mk rfl); (focus exact RF.mk rfl); (focus exact RF.mk rfl); (focus exact RF.mk rfl); (focus exact RF.mk rfl)) | (apply dr_e; (focus exact RF.mk rfl); (focus exact RF.mk rfl); (focus exact RF.mk rfl); (focus exact RF.mk rfl)) | (apply rd_e; (focus exact xx); focus (repeat first | exact PO.nil | apply PO.zero | (apply PO.ld; (focus exact xx)))) | (apply rd_l; (focus exact xx)) | refine wh_seq ?_ | refine wh_skip ?_ | refine wh_block ?_ | refine wh_end ?_ | refine wh_exit ?_ | refine wh_ret ?_ | refine bk_norm ?_ | refine bk_exit ?_ | refine bk_ret ?_ | refine fr_exit ?_ | refine fr_ret ?_ | refine lp_exit ?_ | refine lp_ret ?_ | refine jn_exit ?_ | refine jn_ret ?_ | refine bk_other rfl ?_ | (apply wr; focus exact xx) | (apply wi; (focus exact xx); (focus exact xx); all_goals intro _; all_goals try first | contradiction | (exfalso; omega) | exact absurd trivial ‹_›) | refine wh_reg ?_ | refine wh_ife ?_ | (apply re; focus exact xx) | (apply rf; (focus exact xx); (focus exact xx); all_goals intro _; all_goals try first | contradiction | (exfalso; omega) | exact absurd trivial ‹_›) | (apply ra; (focus exact xx); (focus exact xx); intro _) | (apply r1; (focus exact xx); (focus exact xx); intro _) | (apply rl; (focus exact xx); (focus exact xx); intro _) | (apply rb; (focus exact xx); (focus exact xx); intro _) | (apply rsi; (focus exact xx); (focus exact xx); all_goals try infer_instance) | (apply rsz; (focus exact xx); (focus exact xx); all_goals try infer_instance) | (apply rt; (focus exact xx); (focus exact xx)) | (apply rso; (focus exact xx); (focus exact xx); all_goals try infer_instance) | (apply rmm; (focus exact xx); intro _) | (apply rsb; (focus exact xx); (focus exact xx)) | (apply ru; (focus exact xx); (focus exact xx)) | (apply rm; (focus exact xx); (focus exact xx); intro _) | (apply rk; (focus exact xx); (focus exact xx); intro _) | (apply rcf; (focus exact xx); (focus (apply ACF.mk; (focus exact xx); (focus exact inferInstance); (focus exact xx); (focus exact inferInstance); (focus exact xx); (focus exact rfl)))) | (apply rco; (focus exact xx); (focus (apply ACO.mk; (focus exact xx); (focus exact xx); (focus exact inferInstance); (focus exact xx); (focus exact xx))); intro _) | (apply rc; (focus exact xx); (focus exact xx)) | (apply rk'; (focus exact xx); (focus exact xx))
    · rename_i h5
      refine fz ?_
      have hC := op_g rfl h6 hg h5
      rw [oneV, hC, if_neg h5]; rfl
    · rename_i h5
      have h5 := Decidable.not_not.1 h5
      refine fz ?_
      obtain ⟨hC, hn6⟩ := op_h rfl h6 hg hk h5
      rw [oneV, hC, if_pos rfl, hv, hn6]; rfl⟩
end Go.AM

set_option linter.unusedVariables false
set_option linter.unusedSimpArgs false
namespace Go.AM
attribute [-simp] List.length_flatten List.map_flatten List.map_take List.map_map List.flatten_append
/-! The count of operations changes nothing but itself. -/
def setO (c : Cur) (k : Nat) : Cur := { c with ops := k }
theorem fail_O (c : Cur) (k : Nat) (e : Int) : failC (setO c k) e = setO (failC c e) k := by
  unfold failC; show (if c.e = 0 then _ else _) = _; split <;> rfl
theorem take_O (c : Cur) (k : Nat) (b : UInt8) : takeC (setO c k) b = setO (takeC c b) k := by
  unfold takeC; show (if seesC c b = true then _ else _) = _; split <;> rfl
theorem must_O (c : Cur) (k : Nat) (b : UInt8) : mustC (setO c k) b = setO (mustC c b) k := by
  unfold mustC; rw [take_O, fail_O]; show (if seesC c b = true then _ else _) = _; split <;> rfl
theorem name_O (c : Cur) (k : Nat) : nameC (setO c k) = setO (nameC c) k := by
  unfold nameC; rw [fail_O]; show (if nameN c = 0 then _ else _) = _; split <;> rfl
theorem number_O (c : Cur) (k : Nat) : numberC (setO c k) = setO (numberC c) k := by
  unfold numberC; rw [fail_O]; show (if c.e = 0 then (if (getS (numT c)).2 = 0 then _ else _) else _) = _
  split
  · split <;> rfl
  · rfl
theorem op_O {c : Cur} {k : Nat} (h : small c) (h' : small (setO c k)) : opC (setO c k) = setO (opC c) (k + 1) ∧ opV (setO c k) = opV c := by
  have h1 : op1 (setO c k) = setO (op1 c) k := by rw [op1_id h, op1_id h']
  have h2 : op2 (setO c k) = setO (op2 c) k := by rw [op2, op2, h1, take_O]
  have h3 : op3 (setO c k) = setO (op3 c) k := by
    unfold op3; rw [h1, h2, must_O]
    show (if seesC (op1 c) 119 = true then _ else _) = _
    split <;> rfl
  have h4 : op4 (setO c k) = setO (op4 c) k := by rw [op4, op4, h3, must_O]
  have h5 : op5 (setO c k) = setO (op5 c) k := by rw [op5, op5, h4, name_O]
  have h6 : op6 (setO c k) = setO (op6 c) k := by rw [op6, op6, h5, must_O]
  have h7 : op7 (setO c k) = setO (op7 c) k := by rw [op7, op7, h6, number_O]
  refine ⟨?_, ?_⟩
  · rw [opC, opC, h7]; rfl
  · rw [opV, opV, h1, h4, h6]; rfl
theorem oneV_O {s : List UInt8} {a n : Nat} (h : small ⟨s, a, n, 0⟩) : oneV ⟨s, a, 0, 0⟩ = oneV ⟨s, a, n, 0⟩ := by
  have h0 : small ⟨s, a, 0, 0⟩ := fun h => by simp at h
  obtain ⟨h1, h2⟩ := op_O (k := 0) h h0
  have h1 : opC ⟨s, a, 0, 0⟩ = setO (opC ⟨s, a, n, 0⟩) 1 := h1
  have h2 : opV ⟨s, a, 0, 0⟩ = opV ⟨s, a, n, 0⟩ := h2
  rw [oneV, oneV, h1, h2]; rfl
theorem stuck_more {c : Cur} (h : ¬ c.e = 0) : ∀ m, moreC m c = ([], c)
  | 0 => rfl
  | m + 1 => by rw [moreC, if_neg (stuck_sees h)]
theorem stuck_text {c : Cur} (h : ¬ c.e = 0) : ∀ m, textC m c = ([], c)
  | 0 => rfl
  | m + 1 => by rw [textC, if_neg (fun h' => h h'.1)]
theorem no_more {c : Cur} (h : ¬ seesC c 32 = true) : ∀ m, moreC m c = ([], c)
  | 0 => rfl
  | m + 1 => by rw [moreC, if_neg h]
/-- A text that can't be read on. -/
theorem read_err {s : List UInt8} {P : List (List Op)} {c0 c : Cur} {k a : Nat} {e : Int} (hR : readT s = (P ++ (textC (k + 1) c0).1, (textC (k + 1) c0).2)) (h0 : c0.e = 0 ∧ c0.at' < c0.s.length) (hl : lineC c0 = c) (he : ¬ c.e = 0) (ha : c.at' = a) (hx : c.e = e) : .tup [eH [], .int .i64 (a : Nat), .int .i64 e] = readV s := by
  rw [textC, if_pos h0, hl, stuck_text he] at hR
  rw [readV, hR, if_neg he, ha, hx]
/-- Where a line's operation begins. -/
structure Stp (c0 : Cur) (xs : List Op) (d : Cur) (m : Nat) : Prop where
  v : lineV c0 = xs ++ opV d :: (moreC m (opC d)).1
  c : lineC c0 = mustC (moreC m (opC d)).2 10
theorem Stp.bad {c0 d : Cur} {xs : List Op} {m : Nat} (h : Stp c0 xs d m) (he : ¬ (opC d).e = 0) : lineC c0 = opC d := by
  rw [h.c, stuck_more he, stuck_must he]
end Go.AM

set_option linter.unusedVariables false
set_option linter.unusedSimpArgs false
namespace Go.AM
attribute [-simp] List.length_flatten List.map_flatten List.map_take List.map_map List.flatten_append
theorem not_sees {s : List UInt8} {a n : Nat} {b : UInt8} (h : ¬ ((nth s a).toNat : Int) = ((b.toNat : Nat) : Int)) : ¬ seesC ⟨s, a, n, 0⟩ b = true := by
  rw [sees_iff rfl]; exact fun h' => h ((u8eq _ _).2 h'.2)
/-- Within a line of the document's answer. -/
def InL (s : List UInt8) (c0 : Cur) (xs : List Op) (a n m : Nat) : Prop := (xs = [] ∧ ⟨s, a, n, 0⟩ = c0 ∧ m = s.length + 1) ∨ (0 < xs.length ∧ s.length - a ≤ m ∧ lineV c0 = xs ++ (moreC m ⟨s, a, n, 0⟩).1 ∧ lineC c0 = mustC (moreC m ⟨s, a, n, 0⟩).2 10)
theorem in_end {s : List UInt8} {c0 : Cur} {xs : List Op} {a n m : Nat} (h : InL s c0 xs a n m) (ha : a < s.length) (h10 : ((nth s a).toNat : Int) = 10) : lineV c0 = xs ∧ lineC c0 = ⟨s, a + 1, n, 0⟩ := by
  have hs : seesC ⟨s, a, n, 0⟩ 10 = true := (sees_i ha).2 h10
  rcases h with ⟨rfl, rfl, -⟩ | ⟨-, -, h1, h2⟩
  · exact ⟨by rw [lineV, if_pos hs], by rw [lineC, if_pos hs, take_yes hs]⟩
  · have h32 : ¬ seesC ⟨s, a, n, 0⟩ 32 = true := not_sees (by rw [h10]; decide)
    rw [no_more h32] at h1 h2
    exact ⟨by rw [h1, List.append_nil], by rw [h2, must_yes hs]⟩
theorem in_sp {s : List UInt8} {c0 : Cur} {xs : List Op} {a n m : Nat} (h : InL s c0 xs a n m) (hx : 0 < xs.length) (h10 : ¬ ((nth s a).toNat : Int) = 10) (h32 : ¬ ((nth s a).toNat : Int) = 32) : lineC c0 = ⟨s, a, n, 2⟩ := by
  rcases h with ⟨rfl, -, -⟩ | ⟨-, -, h1, h2⟩
  · cases hx
  · rw [no_more (not_sees h32)] at h2
    rw [h2, must_no rfl (not_sees h10)]
theorem in_first {s : List UInt8} {c0 : Cur} {xs : List Op} {a n m : Nat} (h : InL s c0 xs a n m) (hx : ¬ 0 < xs.length) (h10 : ¬ ((nth s a).toNat : Int) = 10) : xs = [] ∧ m = s.length + 1 ∧ Stp c0 xs ⟨s, a, n, 0⟩ s.length := by
  rcases h with ⟨rfl, rfl, hm⟩ | ⟨h1, -, -⟩
  · have hs : ¬ seesC ⟨s, a, n, 0⟩ 10 = true := not_sees h10
    exact ⟨rfl, hm, by rw [lineV, if_neg hs]; rfl, by rw [lineC, if_neg hs]⟩
  · exact absurd h1 hx
theorem in_next {s : List UInt8} {c0 : Cur} {xs : List Op} {a n m : Nat} (h : InL s c0 xs a n m) (hx : 0 < xs.length) (ha : a < s.length) (h32 : ((nth s a).toNat : Int) = 32) : ∃ k, m = k + 1 ∧ s.length - (a + 1) ≤ k ∧ Stp c0 xs ⟨s, a + 1, n, 0⟩ k := by
  rcases h with ⟨rfl, -, -⟩ | ⟨-, hm, h1, h2⟩
  · cases hx
  · obtain ⟨k, rfl⟩ : ∃ k, m = k + 1 := ⟨m - 1, by omega⟩
    have hs : seesC ⟨s, a, n, 0⟩ 32 = true := (sees_i ha).2 h32
    rw [moreC, if_pos hs, take_yes hs] at h1 h2
    exact ⟨k, rfl, by omega, h1, h2⟩
set_option maxHeartbeats 4000000 in
instance ref07_Text (s : List UInt8) : PCon T0 n.ref07_Text [.str s] true (s.length ≤ 1048576) (readV s) := ⟨fun hb => by
  refine pc tabOk ?_
  refine wn 1 false ?_
  repeat' first | (apply dr_fin; (focus exact xx)) | (apply dr_gt; (focus exact xx)) | (apply dr_gf; (focus exact xx); (focus first | exact .inl rfl | exact .inr rfl); focus (first | exact InD.no | (apply InD.so; (focus exact xx)))) | (apply dr_v; focus (apply DV.mk; (focus exact RF.mk rfl); (focus exact RF.mk rfl); (focus exact RF.mk rfl); (focus exact RF.mk rfl); (focus exact xx); focus (first | exact InD.no | (apply InD.so; (focus exact xx))))) | (apply dr_ve; focus (apply DVE.mk; (focus exact RF.mk rfl); (focus exact RF.mk rfl); (focus exact RF.mk rfl); (focus exact xx); focus (first | exact InD.no | (apply InD.so; (focus exact xx))))) | (apply dr_r; focus (apply DL.mk; (focus exact RF.mk rfl); (focus exact xx); (focus exact xx); focus (first | exact InD.no | (apply InD.so; (focus exact xx))))) | (apply dr_l; (focus exact RF.mk rfl); (focus exact RF.mk rfl); (focus exact RF.mk rfl); (focus exact RF.mk rfl); (focus exact RF.mk rfl)) | (apply dr_e; (focus exact RF.mk rfl); (focus exact RF.mk rfl); (focus exact RF.mk rfl); (focus exact RF.mk rfl)) | (apply rd_e; (focus exact xx); focus (repeat first | exact PO.nil | apply PO.zero | (apply PO.ld; (focus exact xx)))) | (apply rd_l; (focus exact xx)) | refine wh_seq ?_ | refine wh_skip ?_ | refine wh_block ?_ | refine wh_end ?_ | refine wh_exit ?_ | refine wh_ret ?_ | refine bk_norm ?_ | refine bk_exit ?_ | refine bk_ret ?_ | refine fr_exit ?_ | refine fr_ret ?_ | refine lp_exit ?_ | refine lp_ret ?_ | refine jn_exit ?_ | refine jn_ret ?_ | refine bk_other rfl ?_ | (apply wr; focus exact xx) | (apply wi; (focus exact xx); (focus exact xx); all_goals intro _; all_goals try first | contradiction | (exfalso; omega) | exact absurd trivial ‹_›) | refine wh_reg ?_ | refine wh_ife ?_ | (apply re; focus exact xx) | (apply rf; (focus exact xx); (focus exact xx); all_goals intro _; all_goals try first | contradiction | (exfalso; omega) | exact absurd trivial ‹_›) | (apply ra; (focus exact xx); (focus exact xx); intro _) | (apply r1; (focus exact xx); (focus exact xx); intro _) | (apply rl; (focus exact xx); (focus exact xx); intro _) | (apply rb; (focus exact xx); (focus exact xx); intro _) | (apply rsi; (focus exact xx); (focus exact xx); all_goals try infer_instance) | (apply rsz; (focus exact xx); (focus exact xx); all_goals try infer_instance) | (apply rt; (focus exact xx); (focus exact xx)) | (apply rso; (focus exact xx); (focus exact xx); all_goals try infer_instance) | (apply rmm; (focus exact xx); intro _) | (apply rsb; (focus exact xx); (focus exact xx)) | (apply ru; (focus exact xx); (focus exact xx)) | (apply rm; (focus exact xx); (focus exact xx); intro _) | (apply rk; (focus exact xx); (focus exact xx); intro _) | (apply rcf; (focus exact xx); (focus (apply ACF.mk; (focus exact xx); (focus exact inferInstance); (focus exact xx); (focus exact inferInstance); (focus exact xx); (focus exact rfl)))) | (apply rco; (focus exact xx); (focus (apply ACO.mk; (focus exact xx); (focus exact xx); (focus exact inferInstance); (focus exact xx); (focus exact xx))); intro _) | (apply rc; (focus exact xx); (focus exact xx)) | (apply rk'; (focus exact xx); (focus exact xx))
  refine wh_loop (fun m A L => ∃ (es : List (NE Op)) (a n0 : Nat) (g : Hd), okL ⟨s, a, n0, 0⟩ ∧ s.length - a ≤ m ∧ es.length + m = s.length ∧ readT s = (es.map NE.c ++ (textC m ⟨s, a, n0, 0⟩).1, (textC m ⟨s, a, n0, 0⟩).2) ∧ A = [(0, .str s), (5, g.v), (6, .int .i64 (a : Nat)), (7, .int .i64 (n0 : Nat))] ∧ L = .own g 1 false (es.map (NE.v eOp)) :: rows 3 true eOp es) s.length ⟨[], 0, 0, .nil, ⟨⟨Nat.zero_le _, hb⟩, Nat.le_refl _⟩, Nat.le_refl _, by simp, by simp [readT], rfl, rfl⟩ ?_
  rintro m A L ⟨es, a, n0, g, ok, hm2, hm, hR, rfl, rfl⟩
  repeat' first | (apply dr_fin; (focus exact xx)) | (apply dr_gt; (focus exact xx)) | (apply dr_gf; (focus exact xx); (focus first | exact .inl rfl | exact .inr rfl); focus (first | exact InD.no | (apply InD.so; (focus exact xx)))) | (apply dr_v; focus (apply DV.mk; (focus exact RF.mk rfl); (focus exact RF.mk rfl); (focus exact RF.mk rfl); (focus exact RF.mk rfl); (focus exact xx); focus (first | exact InD.no | (apply InD.so; (focus exact xx))))) | (apply dr_ve; focus (apply DVE.mk; (focus exact RF.mk rfl); (focus exact RF.mk rfl); (focus exact RF.mk rfl); (focus exact xx); focus (first | exact InD.no | (apply InD.so; (focus exact xx))))) | (apply dr_r; focus (apply DL.mk; (focus exact RF.mk rfl); (focus exact xx); (focus exact xx); focus (first | exact InD.no | (apply InD.so; (focus exact xx))))) | (apply dr_l; (focus exact RF.mk rfl); (focus exact RF.mk rfl); (focus exact RF.mk rfl); (focus exact RF.mk rfl); (focus exact RF.mk rfl)) | (apply dr_e; (focus exact RF.mk rfl); (focus exact RF.mk rfl); (focus exact RF.mk rfl); (focus exact RF.mk rfl)) | (apply rd_e; (focus exact xx); focus (repeat first | exact PO.nil | apply PO.zero | (apply PO.ld; (focus exact xx)))) | (apply rd_l; (focus exact xx)) | refine wh_seq ?_ | refine wh_skip ?_ | refine wh_block ?_ | refine wh_end ?_ | refine wh_exit ?_ | refine wh_ret ?_ | refine bk_norm ?_ | refine bk_exit ?_ | refine bk_ret ?_ | refine fr_exit ?_ | refine fr_ret ?_ | refine lp_exit ?_ | refine lp_ret ?_ | refine jn_exit ?_ | refine jn_ret ?_ | refine bk_other rfl ?_ | (apply wr; focus exact xx) | refine wh_reg ?_ | refine wh_ife ?_ | (apply re; focus exact xx) | (apply ra; (focus exact xx); (focus exact xx); intro _) | (apply r1; (focus exact xx); (focus exact xx); intro _) | (apply rl; (focus exact xx); (focus exact xx); intro _) | (apply rb; (focus exact xx); (focus exact xx); intro _) | (apply rsi; (focus exact xx); (focus exact xx); all_goals try infer_instance) | (apply rsz; (focus exact xx); (focus exact xx); all_goals try infer_instance) | (apply rt; (focus exact xx); (focus exact xx)) | (apply rso; (focus exact xx); (focus exact xx); all_goals try infer_instance) | (apply rmm; (focus exact xx); intro _) | (apply rsb; (focus exact xx); (focus exact xx)) | (apply ru; (focus exact xx); (focus exact xx)) | (apply rm; (focus exact xx); (focus exact xx); intro _) | (apply rk; (focus exact xx); (focus exact xx); intro _) | (apply rcf; (focus exact xx); (focus (apply ACF.mk; (focus exact xx); (focus exact inferInstance); (focus exact xx); (focus exact inferInstance); (focus exact xx); (focus exact rfl)))) | (apply rco; (focus exact xx); (focus (apply ACO.mk; (focus exact xx); (focus exact xx); (focus exact inferInstance); (focus exact xx); (focus exact xx))); intro _) | (apply rc; (focus exact xx); (focus exact xx)) | (apply rk'; (focus exact xx); (focus exact xx))
  ((first | apply wi | apply rf); (focus exact xx); (focus exact xx); all_goals intro _)
  · rename_i hlt
    have hlt : a < s.length := by omega
    obtain ⟨k, rfl⟩ : ∃ k, m = k + 1 := ⟨m - 1, by omega⟩
    refine wn 3 true ?_
    repeat' first | (apply dr_fin; (focus exact xx)) | (apply dr_gt; (focus exact xx)) | (apply dr_gf; (focus exact xx); (focus first | exact .inl rfl | exact .inr rfl); focus (first | exact InD.no | (apply InD.so; (focus exact xx)))) | (apply dr_v; focus (apply DV.mk; (focus exact RF.mk rfl); (focus exact RF.mk rfl); (focus exact RF.mk rfl); (focus exact RF.mk rfl); (focus exact xx); focus (first | exact InD.no | (apply InD.so; (focus exact xx))))) | (apply dr_ve; focus (apply DVE.mk; (focus exact RF.mk rfl); (focus exact RF.mk rfl); (focus exact RF.mk rfl); (focus exact xx); focus (first | exact InD.no | (apply InD.so; (focus exact xx))))) | (apply dr_r; focus (apply DL.mk; (focus exact RF.mk rfl); (focus exact xx); (focus exact xx); focus (first | exact InD.no | (apply InD.so; (focus exact xx))))) | (apply dr_l; (focus exact RF.mk rfl); (focus exact RF.mk rfl); (focus exact RF.mk rfl); (focus exact RF.mk rfl); (focus exact RF.mk rfl)) | (apply dr_e; (focus exact RF.mk rfl); (focus exact RF.mk rfl); (focus exact RF.mk rfl); (focus exact RF.mk rfl)) | (apply rd_e; (focus exact xx); focus (repeat first | exact PO.nil | apply PO.zero | (apply PO.ld; (focus exact xx)))) | (apply rd_l; (focus exact xx)) | refine wh_seq ?_ | refine wh_skip ?_ | refine wh_block ?_ | refine wh_end ?_ | refine wh_exit ?_ | refine wh_ret ?_ | refine bk_norm ?_ | refine bk_exit ?_ | refine bk_ret ?_ | refine fr_exit ?_ | refine fr_ret ?_ | refine lp_exit ?_ | refine lp_ret ?_ | refine jn_exit ?_ | refine jn_ret ?_ | refine bk_other rfl ?_ | (apply wr; focus exact xx) | refine wh_reg ?_ | (apply re; focus exact xx) | (apply ra; (focus exact xx); (focus exact xx); intro _) | (apply r1; (focus exact xx); (focus exact xx); intro _) | (apply rl; (focus exact xx); (focus exact xx); intro _) | (apply rb; (focus exact xx); (focus exact xx); intro _) | (apply rsi; (focus exact xx); (focus exact xx); all_goals try infer_instance) | (apply rsz; (focus exact xx); (focus exact xx); all_goals try infer_instance) | (apply rt; (focus exact xx); (focus exact xx)) | (apply rso; (focus exact xx); (focus exact xx); all_goals try infer_instance) | (apply rmm; (focus exact xx); intro _) | (apply rsb; (focus exact xx); (focus exact xx)) | (apply ru; (focus exact xx); (focus exact xx)) | (apply rm; (focus exact xx); (focus exact xx); intro _) | (apply rk; (focus exact xx); (focus exact xx); intro _) | (apply rcf; (focus exact xx); (focus (apply ACF.mk; (focus exact xx); (focus exact inferInstance); (focus exact xx); (focus exact inferInstance); (focus exact xx); (focus exact rfl)))) | (apply rco; (focus exact xx); (focus (apply ACO.mk; (focus exact xx); (focus exact xx); (focus exact inferInstance); (focus exact xx); (focus exact xx))); intro _) | (apply rc; (focus exact xx); (focus exact xx)) | (apply rk'; (focus exact xx); (focus exact xx))
    refine wh_loop (fun m A L => ∃ (xs : List Op) (a1 n1 : Nat) (g8 : Hd), n1 ≤ a1 + 1 ∧ (xs = [] → n1 ≤ a1) ∧ a1 < s.length ∧ xs.length ≤ n1 ∧ InL s ⟨s, a, n0, 0⟩ xs a1 n1 m ∧ A = [(0, .str s), (5, g.v), (6, .int .i64 (a1 : Nat)), (7, .int .i64 (n1 : Nat)), (8, g8.v)] ∧ L = .own g8 3 true (xs.map eOp) :: .own g 1 false (es.map (NE.v eOp)) :: rows 3 true eOp es) (s.length + 1) ⟨[], a, n0, .nil, Nat.le_succ_of_le ok.2, fun _ => ok.2, hlt, Nat.zero_le _, .inl ⟨rfl, rfl, rfl⟩, rfl, rfl⟩ ?_
    rintro m A L ⟨xs, a1, n1, g8, ok3, ok4, hlt1, hx1, hI, rfl, rfl⟩
    have hc0 : (⟨s, a, n0, 0⟩ : Cur).e = 0 ∧ (⟨s, a, n0, 0⟩ : Cur).at' < (⟨s, a, n0, 0⟩ : Cur).s.length := ⟨rfl, hlt⟩
    repeat' first | (apply dr_fin; (focus exact xx)) | (apply dr_gt; (focus exact xx)) | (apply dr_gf; (focus exact xx); (focus first | exact .inl rfl | exact .inr rfl); focus (first | exact InD.no | (apply InD.so; (focus exact xx)))) | (apply dr_v; focus (apply DV.mk; (focus exact RF.mk rfl); (focus exact RF.mk rfl); (focus exact RF.mk rfl); (focus exact RF.mk rfl); (focus exact xx); focus (first | exact InD.no | (apply InD.so; (focus exact xx))))) | (apply dr_ve; focus (apply DVE.mk; (focus exact RF.mk rfl); (focus exact RF.mk rfl); (focus exact RF.mk rfl); (focus exact xx); focus (first | exact InD.no | (apply InD.so; (focus exact xx))))) | (apply dr_r; focus (apply DL.mk; (focus exact RF.mk rfl); (focus exact xx); (focus exact xx); focus (first | exact InD.no | (apply InD.so; (focus exact xx))))) | (apply dr_l; (focus exact RF.mk rfl); (focus exact RF.mk rfl); (focus exact RF.mk rfl); (focus exact RF.mk rfl); (focus exact RF.mk rfl)) | (apply dr_e; (focus exact RF.mk rfl); (focus exact RF.mk rfl); (focus exact RF.mk rfl); (focus exact RF.mk rfl)) | (apply rd_e; (focus exact xx); focus (repeat first | exact PO.nil | apply PO.zero | (apply PO.ld; (focus exact xx)))) | (apply rd_l; (focus exact xx)) | refine wh_seq ?_ | refine wh_skip ?_ | refine wh_block ?_ | refine wh_end ?_ | refine wh_exit ?_ | refine wh_ret ?_ | refine bk_norm ?_ | refine bk_exit ?_ | refine bk_ret ?_ | refine fr_exit ?_ | refine fr_ret ?_ | refine lp_exit ?_ | refine lp_ret ?_ | refine jn_exit ?_ | refine jn_ret ?_ | refine bk_other rfl ?_ | (apply wr; focus exact xx) | refine wh_reg ?_ | refine wh_ife ?_ | (apply re; focus exact xx) | (apply ra; (focus exact xx); (focus exact xx); intro _) | (apply r1; (focus exact xx); (focus exact xx); intro _) | (apply rl; (focus exact xx); (focus exact xx); intro _) | (apply rb; (focus exact xx); (focus exact xx); intro _) | (apply rsi; (focus exact xx); (focus exact xx); all_goals try infer_instance) | (apply rsz; (focus exact xx); (focus exact xx); all_goals try infer_instance) | (apply rt; (focus exact xx); (focus exact xx)) | (apply rso; (focus exact xx); (focus exact xx); all_goals try infer_instance) | (apply rmm; (focus exact xx); intro _) | (apply rsb; (focus exact xx); (focus exact xx)) | (apply ru; (focus exact xx); (focus exact xx)) | (apply rm; (focus exact xx); (focus exact xx); intro _) | (apply rk; (focus exact xx); (focus exact xx); intro _) | (apply rcf; (focus exact xx); (focus (apply ACF.mk; (focus exact xx); (focus exact inferInstance); (focus exact xx); (focus exact inferInstance); (focus exact xx); (focus exact rfl)))) | (apply rco; (focus exact xx); (focus (apply ACO.mk; (focus exact xx); (focus exact xx); (focus exact inferInstance); (focus exact xx); (focus exact xx))); intro _) | (apply rc; (focus exact xx); (focus exact xx)) | (apply rk'; (focus exact xx); (focus exact xx))
    ((first | apply wi | apply rf); (focus exact xx); (focus exact xx); all_goals intro _)
    · rename_i h10
      repeat' first | (apply dr_fin; (focus exact xx)) | (apply dr_gt; (focus exact xx)) | (apply dr_gf; (focus exact xx); (focus first | exact .inl rfl | exact .inr rfl); focus (first | exact InD.no | (apply InD.so; (focus exact xx)))) | (apply dr_v; focus (apply DV.mk; (focus exact RF.mk rfl); (focus exact RF.mk rfl); (focus exact RF.mk rfl); (focus exact RF.mk rfl); (focus exact xx); focus (first | exact InD.no | (apply InD.so; (focus exact xx))))) | (apply dr_ve; focus (apply DVE.mk; (focus exact RF.mk rfl); (focus exact RF.mk rfl); (focus exact RF.mk rfl); (focus exact xx); focus (first | exact InD.no | (apply InD.so; (focus exact xx))))) | (apply dr_r; focus (apply DL.mk; (focus exact RF.mk rfl); (focus exact xx); (focus exact xx); focus (first | exact InD.no | (apply InD.so; (focus exact xx))))) | (apply dr_l; (focus exact RF.mk rfl); (focus exact RF.mk rfl); (focus exact RF.mk rfl); (focus exact RF.mk rfl); (focus exact RF.mk rfl)) | (apply dr_e; (focus exact RF.mk rfl); (focus exact RF.mk rfl); (focus exact RF.mk rfl); (focus exact RF.mk rfl)) | (apply rd_e; (focus exact xx); focus (repeat first | exact PO.nil | apply PO.zero | (apply PO.ld; (focus exact xx)))) | (apply rd_l; (focus exact xx)) | refine wh_seq ?_ | refine wh_skip ?_ | refine wh_block ?_ | refine wh_end ?_ | refine wh_exit ?_ | refine wh_ret ?_ | refine bk_norm ?_ | refine bk_exit ?_ | refine bk_ret ?_ | refine fr_exit ?_ | refine fr_ret ?_ | refine lp_exit ?_ | refine lp_ret ?_ | refine jn_exit ?_ | refine jn_ret ?_ | refine bk_other rfl ?_ | (apply wr; focus exact xx) | refine wh_reg ?_ | (apply re; focus exact xx) | (apply ra; (focus exact xx); (focus exact xx); intro _) | (apply r1; (focus exact xx); (focus exact xx); intro _) | (apply rl; (focus exact xx); (focus exact xx); intro _) | (apply rb; (focus exact xx); (focus exact xx); intro _) | (apply rsi; (focus exact xx); (focus exact xx); all_goals try infer_instance) | (apply rsz; (focus exact xx); (focus exact xx); all_goals try infer_instance) | (apply rt; (focus exact xx); (focus exact xx)) | (apply rso; (focus exact xx); (focus exact xx); all_goals try infer_instance) | (apply rmm; (focus exact xx); intro _) | (apply rsb; (focus exact xx); (focus exact xx)) | (apply ru; (focus exact xx); (focus exact xx)) | (apply rm; (focus exact xx); (focus exact xx); intro _) | (apply rk; (focus exact xx); (focus exact xx); intro _) | (apply rcf; (focus exact xx); (focus (apply ACF.mk; (focus exact xx); (focus exact inferInstance); (focus exact xx); (focus exact inferInstance); (focus exact xx); (focus exact rfl)))) | (apply rco; (focus exact xx); (focus (apply ACO.mk; (focus exact xx); (focus exact xx); (focus exact inferInstance); (focus exact xx); (focus exact xx))); intro _) | (apply rc; (focus exact xx); (focus exact xx)) | (apply rk'; (focus exact xx); (focus exact xx))
      refine wh_cat (fun A L => ∃ a2 mk : Nat, a2 ≤ s.length ∧ n1 ≤ a2 ∧ s.length - a2 ≤ mk ∧ m = mk + 1 ∧ Stp ⟨s, a, n0, 0⟩ xs ⟨s, a2, n1, 0⟩ mk ∧ A = [(0, .str s), (5, g.v), (6, .int .i64 (a2 : Nat)), (7, .int .i64 (n1 : Nat)), (8, g8.v)] ∧ L = .own g8 3 true (xs.map eOp) :: .own g 1 false (es.map (NE.v eOp)) :: rows 3 true eOp es) ?_ ?_
      · repeat' first | (apply dr_fin; (focus exact xx)) | (apply dr_gt; (focus exact xx)) | (apply dr_gf; (focus exact xx); (focus first | exact .inl rfl | exact .inr rfl); focus (first | exact InD.no | (apply InD.so; (focus exact xx)))) | (apply dr_v; focus (apply DV.mk; (focus exact RF.mk rfl); (focus exact RF.mk rfl); (focus exact RF.mk rfl); (focus exact RF.mk rfl); (focus exact xx); focus (first | exact InD.no | (apply InD.so; (focus exact xx))))) | (apply dr_ve; focus (apply DVE.mk; (focus exact RF.mk rfl); (focus exact RF.mk rfl); (focus exact RF.mk rfl); (focus exact xx); focus (first | exact InD.no | (apply InD.so; (focus exact xx))))) | (apply dr_r; focus (apply DL.mk; (focus exact RF.mk rfl); (focus exact xx); (focus exact xx); focus (first | exact InD.no | (apply InD.so; (focus exact xx))))) | (apply dr_l; (focus exact RF.mk rfl); (focus exact RF.mk rfl); (focus exact RF.mk rfl); (focus exact RF.mk rfl); (focus exact RF.mk rfl)) | (apply dr_e; (focus exact RF.mk rfl); (focus exact RF.mk rfl); (focus exact RF.mk rfl); (focus exact RF.mk rfl)) | (apply rd_e; (focus exact xx); focus (repeat first | exact PO.nil | apply PO.zero | (apply PO.ld; (focus exact xx)))) | (apply rd_l; (focus exact xx)) | refine wh_seq ?_ | refine wh_skip ?_ | refine wh_block ?_ | refine wh_end ?_ | refine wh_exit ?_ | refine wh_ret ?_ | refine bk_norm ?_ | refine bk_exit ?_ | refine bk_ret ?_ | refine fr_exit ?_ | refine fr_ret ?_ | refine lp_exit ?_ | refine lp_ret ?_ | refine jn_exit ?_ | refine jn_ret ?_ | refine bk_other rfl ?_ | (apply wr; focus exact xx) | refine wh_reg ?_ | refine wh_ife ?_ | (apply re; focus exact xx) | (apply ra; (focus exact xx); (focus exact xx); intro _) | (apply r1; (focus exact xx); (focus exact xx); intro _) | (apply rl; (focus exact xx); (focus exact xx); intro _) | (apply rb; (focus exact xx); (focus exact xx); intro _) | (apply rsi; (focus exact xx); (focus exact xx); all_goals try infer_instance) | (apply rsz; (focus exact xx); (focus exact xx); all_goals try infer_instance) | (apply rt; (focus exact xx); (focus exact xx)) | (apply rso; (focus exact xx); (focus exact xx); all_goals try infer_instance) | (apply rmm; (focus exact xx); intro _) | (apply rsb; (focus exact xx); (focus exact xx)) | (apply ru; (focus exact xx); (focus exact xx)) | (apply rm; (focus exact xx); (focus exact xx); intro _) | (apply rk; (focus exact xx); (focus exact xx); intro _) | (apply rcf; (focus exact xx); (focus (apply ACF.mk; (focus exact xx); (focus exact inferInstance); (focus exact xx); (focus exact inferInstance); (focus exact xx); (focus exact rfl)))) | (apply rco; (focus exact xx); (focus (apply ACO.mk; (focus exact xx); (focus exact xx); (focus exact inferInstance); (focus exact xx); (focus exact xx))); intro _) | (apply rc; (focus exact xx); (focus exact xx)) | (apply rk'; (focus exact xx); (focus exact xx))
        ((first | apply wi | apply rf); (focus exact xx); (focus exact xx); all_goals intro _)
        · rename_i hx
          have hx : 0 < xs.length := by omega
          repeat' first | (apply dr_fin; (focus exact xx)) | (apply dr_gt; (focus exact xx)) | (apply dr_gf; (focus exact xx); (focus first | exact .inl rfl | exact .inr rfl); focus (first | exact InD.no | (apply InD.so; (focus exact xx)))) | (apply dr_v; focus (apply DV.mk; (focus exact RF.mk rfl); (focus exact RF.mk rfl); (focus exact RF.mk rfl); (focus exact RF.mk rfl); (focus exact xx); focus (first | exact InD.no | (apply InD.so; (focus exact xx))))) | (apply dr_ve; focus (apply DVE.mk; (focus exact RF.mk rfl); (focus exact RF.mk rfl); (focus exact RF.mk rfl); (focus exact xx); focus (first | exact InD.no | (apply InD.so; (focus exact xx))))) | (apply dr_r; focus (apply DL.mk; (focus exact RF.mk rfl); (focus exact xx); (focus exact xx); focus (first | exact InD.no | (apply InD.so; (focus exact xx))))) | (apply dr_l; (focus exact RF.mk rfl); (focus exact RF.mk rfl); (focus exact RF.mk rfl); (focus exact RF.mk rfl); (focus exact RF.mk rfl)) | (apply dr_e; (focus exact RF.mk rfl); (focus exact RF.mk rfl); (focus exact RF.mk rfl); (focus exact RF.mk rfl)) | (apply rd_e; (focus exact xx); focus (repeat first | exact PO.nil | apply PO.zero | (apply PO.ld; (focus exact xx)))) | (apply rd_l; (focus exact xx)) | refine wh_seq ?_ | refine wh_skip ?_ | refine wh_block ?_ | refine wh_end ?_ | refine wh_exit ?_ | refine wh_ret ?_ | refine bk_norm ?_ | refine bk_exit ?_ | refine bk_ret ?_ | refine fr_exit ?_ | refine fr_ret ?_ | refine lp_exit ?_ | refine lp_ret ?_ | refine jn_exit ?_ | refine jn_ret ?_ | refine bk_other rfl ?_ | (apply wr; focus exact xx) | refine wh_reg ?_ | refine wh_ife ?_ | (apply re; focus exact xx) | (apply ra; (focus exact xx); (focus exact xx); intro _) | (apply r1; (focus exact xx); (focus exact xx); intro _) | (apply rl; (focus exact xx); (focus exact xx); intro _) | (apply rb; (focus exact xx); (focus exact xx); intro _) | (apply rsi; (focus exact xx); (focus exact xx); all_goals try infer_instance) | (apply rsz; (focus exact xx); (focus exact xx); all_goals try infer_instance) | (apply rt; (focus exact xx); (focus exact xx)) | (apply rso; (focus exact xx); (focus exact xx); all_goals try infer_instance) | (apply rmm; (focus exact xx); intro _) | (apply rsb; (focus exact xx); (focus exact xx)) | (apply ru; (focus exact xx); (focus exact xx)) | (apply rm; (focus exact xx); (focus exact xx); intro _) | (apply rk; (focus exact xx); (focus exact xx); intro _) | (apply rcf; (focus exact xx); (focus (apply ACF.mk; (focus exact xx); (focus exact inferInstance); (focus exact xx); (focus exact inferInstance); (focus exact xx); (focus exact rfl)))) | (apply rco; (focus exact xx); (focus (apply ACO.mk; (focus exact xx); (focus exact xx); (focus exact inferInstance); (focus exact xx); (focus exact xx))); intro _) | (apply rc; (focus exact xx); (focus exact xx)) | (apply rk'; (focus exact xx); (focus exact xx))
          ((first | apply wi | apply rf); (focus exact xx); (focus exact xx); all_goals intro _)
          · rename_i h32
            repeat' first | (apply dr_fin; (focus exact xx)) | (apply dr_gt; (focus exact xx)) | (apply dr_gf; (focus exact xx); (focus first | exact .inl rfl | exact .inr rfl); focus (first | exact InD.no | (apply InD.so; (focus exact xx)))) | (apply dr_v; focus (apply DV.mk; (focus exact RF.mk rfl); (focus exact RF.mk rfl); (focus exact RF.mk rfl); (focus exact RF.mk rfl); (focus exact xx); focus (first | exact InD.no | (apply InD.so; (focus exact xx))))) | (apply dr_ve; focus (apply DVE.mk; (focus exact RF.mk rfl); (focus exact RF.mk rfl); (focus exact RF.mk rfl); (focus exact xx); focus (first | exact InD.no | (apply InD.so; (focus exact xx))))) | (apply dr_r; focus (apply DL.mk; (focus exact RF.mk rfl); (focus exact xx); (focus exact xx); focus (first | exact InD.no | (apply InD.so; (focus exact xx))))) | (apply dr_l; (focus exact RF.mk rfl); (focus exact RF.mk rfl); (focus exact RF.mk rfl); (focus exact RF.mk rfl); (focus exact RF.mk rfl)) | (apply dr_e; (focus exact RF.mk rfl); (focus exact RF.mk rfl); (focus exact RF.mk rfl); (focus exact RF.mk rfl)) | (apply rd_e; (focus exact xx); focus (repeat first | exact PO.nil | apply PO.zero | (apply PO.ld; (focus exact xx)))) | (apply rd_l; (focus exact xx)) | refine wh_seq ?_ | refine wh_skip ?_ | refine wh_block ?_ | refine wh_end ?_ | refine wh_exit ?_ | refine wh_ret ?_ | refine bk_norm ?_ | refine bk_exit ?_ | refine bk_ret ?_ | refine fr_exit ?_ | refine fr_ret ?_ | refine lp_exit ?_ | refine lp_ret ?_ | refine jn_exit ?_ | refine jn_ret ?_ | refine bk_other rfl ?_ | (apply wr; focus exact xx) | (apply wi; (focus exact xx); (focus exact xx); all_goals intro _; all_goals try first | contradiction | (exfalso; omega) | exact absurd trivial ‹_›) | refine wh_reg ?_ | refine wh_ife ?_ | (apply re; focus exact xx) | (apply rf; (focus exact xx); (focus exact xx); all_goals intro _; all_goals try first | contradiction | (exfalso; omega) | exact absurd trivial ‹_›) | (apply ra; (focus exact xx); (focus exact xx); intro _) | (apply r1; (focus exact xx); (focus exact xx); intro _) | (apply rl; (focus exact xx); (focus exact xx); intro _) | (apply rb; (focus exact xx); (focus exact xx); intro _) | (apply rsi; (focus exact xx); (focus exact xx); all_goals try infer_instance) | (apply rsz; (focus exact xx); (focus exact xx); all_goals try infer_instance) | (apply rt; (focus exact xx); (focus exact xx)) | (apply rso; (focus exact xx); (focus exact xx); all_goals try infer_instance) | (apply rmm; (focus exact xx); intro _) | (apply rsb; (focus exact xx); (focus exact xx)) | (apply ru; (focus exact xx); (focus exact xx)) | (apply rm; (focus exact xx); (focus exact xx); intro _) | (apply rk; (focus exact xx); (focus exact xx); intro _) | (apply rcf; (focus exact xx); (focus (apply ACF.mk; (focus exact xx); (focus exact inferInstance); (focus exact xx); (focus exact inferInstance); (focus exact xx); (focus exact rfl)))) | (apply rco; (focus exact xx); (focus (apply ACO.mk; (focus exact xx); (focus exact xx); (focus exact inferInstance); (focus exact xx); (focus exact xx))); intro _) | (apply rc; (focus exact xx); (focus exact xx)) | (apply rk'; (focus exact xx); (focus exact xx))
            refine fz ?_
            exact read_err hR hc0 (in_sp hI hx h10 h32) (by simp) rfl rfl
          · rename_i h32
            repeat' first | (apply dr_fin; (focus exact xx)) | (apply dr_gt; (focus exact xx)) | (apply dr_gf; (focus exact xx); (focus first | exact .inl rfl | exact .inr rfl); focus (first | exact InD.no | (apply InD.so; (focus exact xx)))) | (apply dr_v; focus (apply DV.mk; (focus exact RF.mk rfl); (focus exact RF.mk rfl); (focus exact RF.mk rfl); (focus exact RF.mk rfl); (focus exact xx); focus (first | exact InD.no | (apply InD.so; (focus exact xx))))) | (apply dr_ve; focus (apply DVE.mk; (focus exact RF.mk rfl); (focus exact RF.mk rfl); (focus exact RF.mk rfl); (focus exact xx); focus (first | exact InD.no | (apply InD.so; (focus exact xx))))) | (apply dr_r; focus (apply DL.mk; (focus exact RF.mk rfl); (focus exact xx); (focus exact xx); focus (first | exact InD.no | (apply InD.so; (focus exact xx))))) | (apply dr_l; (focus exact RF.mk rfl); (focus exact RF.mk rfl); (focus exact RF.mk rfl); (focus exact RF.mk rfl); (focus exact RF.mk rfl)) | (apply dr_e; (focus exact RF.mk rfl); (focus exact RF.mk rfl); (focus exact RF.mk rfl); (focus exact RF.mk rfl)) | (apply rd_e; (focus exact xx); focus (repeat first | exact PO.nil | apply PO.zero | (apply PO.ld; (focus exact xx)))) | (apply rd_l; (focus exact xx)) | refine wh_seq ?_ | refine wh_skip ?_ | refine wh_block ?_ | refine wh_end ?_ | refine wh_exit ?_ | refine wh_ret ?_ | refine bk_norm ?_ | refine bk_exit ?_ | refine bk_ret ?_ | refine fr_exit ?_ | refine fr_ret ?_ | refine lp_exit ?_ | refine lp_ret ?_ | refine jn_exit ?_ | refine jn_ret ?_ | refine bk_other rfl ?_ | (apply wr; focus exact xx) | (apply wi; (focus exact xx); (focus exact xx); all_goals intro _; all_goals try first | contradiction | (exfalso; omega) | exact absurd trivial ‹_›) | refine wh_reg ?_ | refine wh_ife ?_ | (apply re; focus exact xx) | (apply rf; (focus exact xx); (focus exact xx); all_goals intro _; all_goals try first | contradiction | (exfalso; omega) | exact absurd trivial ‹_›) | (apply ra; (focus exact xx); (focus exact xx); intro _) | (apply r1; (focus exact xx); (focus exact xx); intro _) | (apply rl; (focus exact xx); (focus exact xx); intro _) | (apply rb; (focus exact xx); (focus exact xx); intro _) | (apply rsi; (focus exact xx); (focus exact xx); all_goals try infer_instance) | (apply rsz; (focus exact xx); (focus exact xx); all_goals try infer_instance) | (apply rt; (focus exact xx); (focus exact xx)) | (apply rso; (focus exact xx); (focus exact xx); all_goals try infer_instance) | (apply rmm; (focus exact xx); intro _) | (apply rsb; (focus exact xx); (focus exact xx)) | (apply ru; (focus exact xx); (focus exact xx)) | (apply rm; (focus exact xx); (focus exact xx); intro _) | (apply rk; (focus exact xx); (focus exact xx); intro _) | (apply rcf; (focus exact xx); (focus (apply ACF.mk; (focus exact xx); (focus exact inferInstance); (focus exact xx); (focus exact inferInstance); (focus exact xx); (focus exact rfl)))) | (apply rco; (focus exact xx); (focus (apply ACO.mk; (focus exact xx); (focus exact xx); (focus exact inferInstance); (focus exact xx); (focus exact xx))); intro _) | (apply rc; (focus exact xx); (focus exact xx)) | (apply rk'; (focus exact xx); (focus exact xx))
            obtain ⟨mk, h1, h2, h3⟩ := in_next hI hx hlt1 (Decidable.not_not.1 h32)
            exact ⟨a1 + 1, mk, by omega, by omega, h2, h1, h3, rfl, rfl⟩
        · rename_i hx
          repeat' first | (apply dr_fin; (focus exact xx)) | (apply dr_gt; (focus exact xx)) | (apply dr_gf; (focus exact xx); (focus first | exact .inl rfl | exact .inr rfl); focus (first | exact InD.no | (apply InD.so; (focus exact xx)))) | (apply dr_v; focus (apply DV.mk; (focus exact RF.mk rfl); (focus exact RF.mk rfl); (focus exact RF.mk rfl); (focus exact RF.mk rfl); (focus exact xx); focus (first | exact InD.no | (apply InD.so; (focus exact xx))))) | (apply dr_ve; focus (apply DVE.mk; (focus exact RF.mk rfl); (focus exact RF.mk rfl); (focus exact RF.mk rfl); (focus exact xx); focus (first | exact InD.no | (apply InD.so; (focus exact xx))))) | (apply dr_r; focus (apply DL.mk; (focus exact RF.mk rfl); (focus exact xx); (focus exact xx); focus (first | exact InD.no | (apply InD.so; (focus exact xx))))) | (apply dr_l; (focus exact RF.mk rfl); (focus exact RF.mk rfl); (focus exact RF.mk rfl); (focus exact RF.mk rfl); (focus exact RF.mk rfl)) | (apply dr_e; (focus exact RF.mk rfl); (focus exact RF.mk rfl); (focus exact RF.mk rfl); (focus exact RF.mk rfl)) | (apply rd_e; (focus exact xx); focus (repeat first | exact PO.nil | apply PO.zero | (apply PO.ld; (focus exact xx)))) | (apply rd_l; (focus exact xx)) | refine wh_seq ?_ | refine wh_skip ?_ | refine wh_block ?_ | refine wh_end ?_ | refine wh_exit ?_ | refine wh_ret ?_ | refine bk_norm ?_ | refine bk_exit ?_ | refine bk_ret ?_ | refine fr_exit ?_ | refine fr_ret ?_ | refine lp_exit ?_ | refine lp_ret ?_ | refine jn_exit ?_ | refine jn_ret ?_ | refine bk_other rfl ?_ | (apply wr; focus exact xx) | (apply wi; (focus exact xx); (focus exact xx); all_goals intro _; all_goals try first | contradiction | (exfalso; omega) | exact absurd trivial ‹_›) | refine wh_reg ?_ | refine wh_ife ?_ | (apply re; focus exact xx) | (apply rf; (focus exact xx); (focus exact xx); all_goals intro _; all_goals try first | contradiction | (exfalso; omega) | exact absurd trivial ‹_›) | (apply ra; (focus exact xx); (focus exact xx); intro _) | (apply r1; (focus exact xx); (focus exact xx); intro _) | (apply rl; (focus exact xx); (focus exact xx); intro _) | (apply rb; (focus exact xx); (focus exact xx); intro _) | (apply rsi; (focus exact xx); (focus exact xx); all_goals try infer_instance) | (apply rsz; (focus exact xx); (focus exact xx); all_goals try infer_instance) | (apply rt; (focus exact xx); (focus exact xx)) | (apply rso; (focus exact xx); (focus exact xx); all_goals try infer_instance) | (apply rmm; (focus exact xx); intro _) | (apply rsb; (focus exact xx); (focus exact xx)) | (apply ru; (focus exact xx); (focus exact xx)) | (apply rm; (focus exact xx); (focus exact xx); intro _) | (apply rk; (focus exact xx); (focus exact xx); intro _) | (apply rcf; (focus exact xx); (focus (apply ACF.mk; (focus exact xx); (focus exact inferInstance); (focus exact xx); (focus exact inferInstance); (focus exact xx); (focus exact rfl)))) | (apply rco; (focus exact xx); (focus (apply ACO.mk; (focus exact xx); (focus exact xx); (focus exact inferInstance); (focus exact xx); (focus exact xx))); intro _) | (apply rc; (focus exact xx); (focus exact xx)) | (apply rk'; (focus exact xx); (focus exact xx))
          obtain ⟨h1, h2, h3⟩ := in_first hI (by omega) h10
          exact ⟨a1, s.length, by omega, ok4 h1, by omega, h2, h3, rfl, rfl⟩
      · rintro _ _ ⟨a2, mk, ha2, hn2, hmk, rfl, hS, rfl, rfl⟩
        repeat' first | (apply dr_fin; (focus exact xx)) | (apply dr_gt; (focus exact xx)) | (apply dr_gf; (focus exact xx); (focus first | exact .inl rfl | exact .inr rfl); focus (first | exact InD.no | (apply InD.so; (focus exact xx)))) | (apply dr_v; focus (apply DV.mk; (focus exact RF.mk rfl); (focus exact RF.mk rfl); (focus exact RF.mk rfl); (focus exact RF.mk rfl); (focus exact xx); focus (first | exact InD.no | (apply InD.so; (focus exact xx))))) | (apply dr_ve; focus (apply DVE.mk; (focus exact RF.mk rfl); (focus exact RF.mk rfl); (focus exact RF.mk rfl); (focus exact xx); focus (first | exact InD.no | (apply InD.so; (focus exact xx))))) | (apply dr_r; focus (apply DL.mk; (focus exact RF.mk rfl); (focus exact xx); (focus exact xx); focus (first | exact InD.no | (apply InD.so; (focus exact xx))))) | (apply dr_l; (focus exact RF.mk rfl); (focus exact RF.mk rfl); (focus exact RF.mk rfl); (focus exact RF.mk rfl); (focus exact RF.mk rfl)) | (apply dr_e; (focus exact RF.mk rfl); (focus exact RF.mk rfl); (focus exact RF.mk rfl); (focus exact RF.mk rfl)) | (apply rd_e; (focus exact xx); focus (repeat first | exact PO.nil | apply PO.zero | (apply PO.ld; (focus exact xx)))) | (apply rd_l; (focus exact xx)) | refine wh_seq ?_ | refine wh_skip ?_ | refine wh_block ?_ | refine wh_end ?_ | refine wh_exit ?_ | refine wh_ret ?_ | refine bk_norm ?_ | refine bk_exit ?_ | refine bk_ret ?_ | refine fr_exit ?_ | refine fr_ret ?_ | refine lp_exit ?_ | refine lp_ret ?_ | refine jn_exit ?_ | refine jn_ret ?_ | refine bk_other rfl ?_ | (apply wr; focus exact xx) | refine wh_reg ?_ | refine wh_ife ?_ | (apply re; focus exact xx) | (apply ra; (focus exact xx); (focus exact xx); intro _) | (apply r1; (focus exact xx); (focus exact xx); intro _) | (apply rl; (focus exact xx); (focus exact xx); intro _) | (apply rb; (focus exact xx); (focus exact xx); intro _) | (apply rsi; (focus exact xx); (focus exact xx); all_goals try infer_instance) | (apply rsz; (focus exact xx); (focus exact xx); all_goals try infer_instance) | (apply rt; (focus exact xx); (focus exact xx)) | (apply rso; (focus exact xx); (focus exact xx); all_goals try infer_instance) | (apply rmm; (focus exact xx); intro _) | (apply rsb; (focus exact xx); (focus exact xx)) | (apply ru; (focus exact xx); (focus exact xx)) | (apply rm; (focus exact xx); (focus exact xx); intro _) | (apply rk; (focus exact xx); (focus exact xx); intro _) | (apply rcf; (focus exact xx); (focus (apply ACF.mk; (focus exact xx); (focus exact inferInstance); (focus exact xx); (focus exact inferInstance); (focus exact xx); (focus exact rfl)))) | (apply rco; (focus exact xx); (focus (apply ACO.mk; (focus exact xx); (focus exact xx); (focus exact inferInstance); (focus exact xx); (focus exact xx))); intro _) | (apply rc; (focus exact xx); (focus exact xx)) | (apply rk'; (focus exact xx); (focus exact xx))
        ((first | apply wi | apply rf); (focus exact xx); (focus exact xx); all_goals intro _)
        · rename_i hL
          repeat' first | (apply dr_fin; (focus exact xx)) | (apply dr_gt; (focus exact xx)) | (apply dr_gf; (focus exact xx); (focus first | exact .inl rfl | exact .inr rfl); focus (first | exact InD.no | (apply InD.so; (focus exact xx)))) | (apply dr_v; focus (apply DV.mk; (focus exact RF.mk rfl); (focus exact RF.mk rfl); (focus exact RF.mk rfl); (focus exact RF.mk rfl); (focus exact xx); focus (first | exact InD.no | (apply InD.so; (focus exact xx))))) | (apply dr_ve; focus (apply DVE.mk; (focus exact RF.mk rfl); (focus exact RF.mk rfl); (focus exact RF.mk rfl); (focus exact xx); focus (first | exact InD.no | (apply InD.so; (focus exact xx))))) | (apply dr_r; focus (apply DL.mk; (focus exact RF.mk rfl); (focus exact xx); (focus exact xx); focus (first | exact InD.no | (apply InD.so; (focus exact xx))))) | (apply dr_l; (focus exact RF.mk rfl); (focus exact RF.mk rfl); (focus exact RF.mk rfl); (focus exact RF.mk rfl); (focus exact RF.mk rfl)) | (apply dr_e; (focus exact RF.mk rfl); (focus exact RF.mk rfl); (focus exact RF.mk rfl); (focus exact RF.mk rfl)) | (apply rd_e; (focus exact xx); focus (repeat first | exact PO.nil | apply PO.zero | (apply PO.ld; (focus exact xx)))) | (apply rd_l; (focus exact xx)) | refine wh_seq ?_ | refine wh_skip ?_ | refine wh_block ?_ | refine wh_end ?_ | refine wh_exit ?_ | refine wh_ret ?_ | refine bk_norm ?_ | refine bk_exit ?_ | refine bk_ret ?_ | refine fr_exit ?_ | refine fr_ret ?_ | refine lp_exit ?_ | refine lp_ret ?_ | refine jn_exit ?_ | refine jn_ret ?_ | refine bk_other rfl ?_ | (apply wr; focus exact xx) | (apply wi; (focus exact xx); (focus exact xx); all_goals intro _; all_goals try first | contradiction | (exfalso; omega) | exact absurd trivial ‹_›) | refine wh_reg ?_ | refine wh_ife ?_ | (apply re; focus exact xx) | (apply rf; (focus exact xx); (focus exact xx); all_goals intro _; all_goals try first | contradiction | (exfalso; omega) | exact absurd trivial ‹_›) | (apply ra; (focus exact xx); (focus exact xx); intro _) | (apply r1; (focus exact xx); (focus exact xx); intro _) | (apply rl; (focus exact xx); (focus exact xx); intro _) | (apply rb; (focus exact xx); (focus exact xx); intro _) | (apply rsi; (focus exact xx); (focus exact xx); all_goals try infer_instance) | (apply rsz; (focus exact xx); (focus exact xx); all_goals try infer_instance) | (apply rt; (focus exact xx); (focus exact xx)) | (apply rso; (focus exact xx); (focus exact xx); all_goals try infer_instance) | (apply rmm; (focus exact xx); intro _) | (apply rsb; (focus exact xx); (focus exact xx)) | (apply ru; (focus exact xx); (focus exact xx)) | (apply rm; (focus exact xx); (focus exact xx); intro _) | (apply rk; (focus exact xx); (focus exact xx); intro _) | (apply rcf; (focus exact xx); (focus (apply ACF.mk; (focus exact xx); (focus exact inferInstance); (focus exact xx); (focus exact inferInstance); (focus exact xx); (focus exact rfl)))) | (apply rco; (focus exact xx); (focus (apply ACO.mk; (focus exact xx); (focus exact xx); (focus exact inferInstance); (focus exact xx); (focus exact xx))); intro _) | (apply rc; (focus exact xx); (focus exact xx)) | (apply rk'; (focus exact xx); (focus exact xx))
          refine fz ?_
          have hs : ¬ small ⟨s, a2, n1, 0⟩ := fun h => h ⟨by show n1 = 4096; omega, by
            rw [sees_i (by omega), sees_i (by omega)]; exact hL.2⟩
          have hC := op_large (c := ⟨s, a2, n1, 0⟩) rfl hs
          refine read_err hR hc0 (hS.bad ?_) ?_ ?_ ?_
          · rw [hC]; simp
          · rw [hC]; simp
          · rw [hC]
          · rw [hC]
        rename_i hL
        have hs : small ⟨s, a2, n1, 0⟩ := fun ⟨h1, h2⟩ => hL (by
          have h1 : n1 = 4096 := h1
          have hlt2 : a2 < s.length := by rcases h2 with h2 | h2 <;> exact (sees_lt h2).2.1
          rw [sees_i hlt2, sees_i hlt2] at h2
          exact ⟨⟨by omega, by omega⟩, h2⟩)
        have hv := oneV_O hs
        have hpc := (ref07_one s a2).con ⟨ha2, hb⟩
        rw [hv, oneV] at hpc
        by_cases he : (opC ⟨s, a2, n1, 0⟩).e = 0
        · obtain ⟨a3, hC, ha3, hal⟩ : ∃ a3 : Nat, opC ⟨s, a2, n1, 0⟩ = ⟨s, a3, n1 + 1, 0⟩ ∧ a2 ≤ a3 ∧ a3 ≤ s.length := by
            have h1 := op_cs ⟨s, a2, n1, 0⟩
            have h2 := op_at ⟨s, a2, n1, 0⟩
            have h3 : okCu (opC ⟨s, a2, n1, 0⟩) := opC_ok ⟨ha2, hb⟩
            refine ⟨(opC ⟨s, a2, n1, 0⟩).at', ?_, h2, by have := h3.1; rw [h1.1] at this; exact this⟩
            generalize opC ⟨s, a2, n1, 0⟩ = c at *
            cases c
            obtain ⟨h1, h1'⟩ := h1
            simp only at h1 h1' he
            subst h1; subst h1'; subst he; rfl
          rw [hC, if_pos rfl] at hpc
          have hSv := hS.v
          have hSc := hS.c
          rw [hC] at hSv hSc
          have c1 : PCon T0 n.ref07_one [.str s, .int .i64 (a2 : Nat)] false True (.tup [eOp (opV ⟨s, a2, n1, 0⟩), .int .i64 (a3 : Nat), .int .i64 0]) := ⟨fun _ => hpc⟩
          repeat' first | (apply dr_fin; (focus exact xx)) | (apply dr_gt; (focus exact xx)) | (apply dr_gf; (focus exact xx); (focus first | exact .inl rfl | exact .inr rfl); focus (first | exact InD.no | (apply InD.so; (focus exact xx)))) | (apply dr_v; focus (apply DV.mk; (focus exact RF.mk rfl); (focus exact RF.mk rfl); (focus exact RF.mk rfl); (focus exact RF.mk rfl); (focus exact xx); focus (first | exact InD.no | (apply InD.so; (focus exact xx))))) | (apply dr_ve; focus (apply DVE.mk; (focus exact RF.mk rfl); (focus exact RF.mk rfl); (focus exact RF.mk rfl); (focus exact xx); focus (first | exact InD.no | (apply InD.so; (focus exact xx))))) | (apply dr_r; focus (apply DL.mk; (focus exact RF.mk rfl); (focus exact xx); (focus exact xx); focus (first | exact InD.no | (apply InD.so; (focus exact xx))))) | (apply dr_l; (focus exact RF.mk rfl); (focus exact RF.mk rfl); (focus exact RF.mk rfl); (focus exact RF.mk rfl); (focus exact RF.mk rfl)) | (apply dr_e; (focus exact RF.mk rfl); (focus exact RF.mk rfl); (focus exact RF.mk rfl); (focus exact RF.mk rfl)) | (apply rd_e; (focus exact xx); focus (repeat first | exact PO.nil | apply PO.zero | (apply PO.ld; (focus exact xx)))) | (apply rd_l; (focus exact xx)) | refine wh_seq ?_ | refine wh_skip ?_ | refine wh_block ?_ | refine wh_end ?_ | refine wh_exit ?_ | refine wh_ret ?_ | refine bk_norm ?_ | refine bk_exit ?_ | refine bk_ret ?_ | refine fr_exit ?_ | refine fr_ret ?_ | refine lp_exit ?_ | refine lp_ret ?_ | refine jn_exit ?_ | refine jn_ret ?_ | refine bk_other rfl ?_ | (apply wr; focus exact xx) | (apply wi; (focus exact xx); (focus exact xx); all_goals intro _; all_goals try first | contradiction | (exfalso; omega) | exact absurd trivial ‹_›) | refine wh_reg ?_ | refine wh_ife ?_ | (apply re; focus exact xx) | (apply rf; (focus exact xx); (focus exact xx); all_goals intro _; all_goals try first | contradiction | (exfalso; omega) | exact absurd trivial ‹_›) | (apply ra; (focus exact xx); (focus exact xx); intro _) | (apply r1; (focus exact xx); (focus exact xx); intro _) | (apply rl; (focus exact xx); (focus exact xx); intro _) | (apply rb; (focus exact xx); (focus exact xx); intro _) | (apply rsi; (focus exact xx); (focus exact xx); all_goals try infer_instance) | (apply rsz; (focus exact xx); (focus exact xx); all_goals try infer_instance) | (apply rt; (focus exact xx); (focus exact xx)) | (apply rso; (focus exact xx); (focus exact xx); all_goals try infer_instance) | (apply rmm; (focus exact xx); intro _) | (apply rsb; (focus exact xx); (focus exact xx)) | (apply ru; (focus exact xx); (focus exact xx)) | (apply rm; (focus exact xx); (focus exact xx); intro _) | (apply rk; (focus exact xx); (focus exact xx); intro _) | (apply rcf; (focus exact xx); (focus (apply ACF.mk; (focus exact xx); (focus exact inferInstance); (focus exact xx); (focus exact inferInstance); (focus exact xx); (focus exact rfl)))) | (apply rco; (focus exact xx); (focus (apply ACO.mk; (focus exact xx); (focus exact xx); (focus exact inferInstance); (focus exact xx); (focus exact xx))); intro _) | (apply rc; (focus exact xx); (focus exact xx)) | (apply rk'; (focus exact xx); (focus exact xx))
          · rename_i hend
            have hno : ∀ b, ¬ seesC ⟨s, a3, n1 + 1, 0⟩ b = true := fun b h => by
              have := (sees_lt h).2.1
              simp only at this
              omega
            refine fz ?_
            exact read_err hR hc0 (c := ⟨s, a3, n1 + 1, 2⟩) (by rw [hSc, no_more (hno _), must_no rfl (hno _)]) (by simp) rfl rfl
          · rename_i hend
            refine ⟨mk, _, Nat.lt_succ_self _, ?_, xs ++ [opV ⟨s, a2, n1, 0⟩], a3, n1 + 1, _, by omega, by simp, by omega, by simp; omega, ?_, rfl, rfl⟩
            · rw [List.map_append]
              exact .of (.cons _ (.cons _ (List.Sublist.refl _)))
            · refine .inr ⟨by simp, by omega, ?_, hSc⟩
              rw [hSv]; simp
        · rw [if_neg he] at hpc
          have c1 : PCon T0 n.ref07_one [.str s, .int .i64 (a2 : Nat)] false True (.tup [eOp ⟨false, [], 0⟩, .int .i64 ((opC ⟨s, a2, n1, 0⟩).at' : Nat), .int .i64 (opC ⟨s, a2, n1, 0⟩).e]) := ⟨fun _ => hpc⟩
          repeat' first | (apply dr_fin; (focus exact xx)) | (apply dr_gt; (focus exact xx)) | (apply dr_gf; (focus exact xx); (focus first | exact .inl rfl | exact .inr rfl); focus (first | exact InD.no | (apply InD.so; (focus exact xx)))) | (apply dr_v; focus (apply DV.mk; (focus exact RF.mk rfl); (focus exact RF.mk rfl); (focus exact RF.mk rfl); (focus exact RF.mk rfl); (focus exact xx); focus (first | exact InD.no | (apply InD.so; (focus exact xx))))) | (apply dr_ve; focus (apply DVE.mk; (focus exact RF.mk rfl); (focus exact RF.mk rfl); (focus exact RF.mk rfl); (focus exact xx); focus (first | exact InD.no | (apply InD.so; (focus exact xx))))) | (apply dr_r; focus (apply DL.mk; (focus exact RF.mk rfl); (focus exact xx); (focus exact xx); focus (first | exact InD.no | (apply InD.so; (focus exact xx))))) | (apply dr_l; (focus exact RF.mk rfl); (focus exact RF.mk rfl); (focus exact RF.mk rfl); (focus exact RF.mk rfl); (focus exact RF.mk rfl)) | (apply dr_e; (focus exact RF.mk rfl); (focus exact RF.mk rfl); (focus exact RF.mk rfl); (focus exact RF.mk rfl)) | (apply rd_e; (focus exact xx); focus (repeat first | exact PO.nil | apply PO.zero | (apply PO.ld; (focus exact xx)))) | (apply rd_l; (focus exact xx)) | refine wh_seq ?_ | refine wh_skip ?_ | refine wh_block ?_ | refine wh_end ?_ | refine wh_exit ?_ | refine wh_ret ?_ | refine bk_norm ?_ | refine bk_exit ?_ | refine bk_ret ?_ | refine fr_exit ?_ | refine fr_ret ?_ | refine lp_exit ?_ | refine lp_ret ?_ | refine jn_exit ?_ | refine jn_ret ?_ | refine bk_other rfl ?_ | (apply wr; focus exact xx) | (apply wi; (focus exact xx); (focus exact xx); all_goals intro _; all_goals try first | contradiction | (exfalso; omega) | exact absurd trivial ‹_›) | refine wh_reg ?_ | refine wh_ife ?_ | (apply re; focus exact xx) | (apply rf; (focus exact xx); (focus exact xx); all_goals intro _; all_goals try first | contradiction | (exfalso; omega) | exact absurd trivial ‹_›) | (apply ra; (focus exact xx); (focus exact xx); intro _) | (apply r1; (focus exact xx); (focus exact xx); intro _) | (apply rl; (focus exact xx); (focus exact xx); intro _) | (apply rb; (focus exact xx); (focus exact xx); intro _) | (apply rsi; (focus exact xx); (focus exact xx); all_goals try infer_instance) | (apply rsz; (focus exact xx); (focus exact xx); all_goals try infer_instance) | (apply rt; (focus exact xx); (focus exact xx)) | (apply rso; (focus exact xx); (focus exact xx); all_goals try infer_instance) | (apply rmm; (focus exact xx); intro _) | (apply rsb; (focus exact xx); (focus exact xx)) | (apply ru; (focus exact xx); (focus exact xx)) | (apply rm; (focus exact xx); (focus exact xx); intro _) | (apply rk; (focus exact xx); (focus exact xx); intro _) | (apply rcf; (focus exact xx); (focus (apply ACF.mk; (focus exact xx); (focus exact inferInstance); (focus exact xx); (focus exact inferInstance); (focus exact xx); (focus exact rfl)))) | (apply rco; (focus exact xx); (focus (apply ACO.mk; (focus exact xx); (focus exact xx); (focus exact inferInstance); (focus exact xx); (focus exact xx))); intro _) | (apply rc; (focus exact xx); (focus exact xx)) | (apply rk'; (focus exact xx); (focus exact xx))
          refine fz ?_
          exact read_err hR hc0 (hS.bad he) he rfl rfl
    · rename_i h10
      obtain ⟨h1, h2⟩ := in_end hI hlt1 (Decidable.not_not.1 h10)
      rw [textC, if_pos hc0, h1, h2] at hR
      repeat' first | (apply dr_fin; (focus exact xx)) | (apply dr_gt; (focus exact xx)) | (apply dr_gf; (focus exact xx); (focus first | exact .inl rfl | exact .inr rfl); focus (first | exact InD.no | (apply InD.so; (focus exact xx)))) | (apply dr_v; focus (apply DV.mk; (focus exact RF.mk rfl); (focus exact RF.mk rfl); (focus exact RF.mk rfl); (focus exact RF.mk rfl); (focus exact xx); focus (first | exact InD.no | (apply InD.so; (focus exact xx))))) | (apply dr_ve; focus (apply DVE.mk; (focus exact RF.mk rfl); (focus exact RF.mk rfl); (focus exact RF.mk rfl); (focus exact xx); focus (first | exact InD.no | (apply InD.so; (focus exact xx))))) | (apply dr_r; focus (apply DL.mk; (focus exact RF.mk rfl); (focus exact xx); (focus exact xx); focus (first | exact InD.no | (apply InD.so; (focus exact xx))))) | (apply dr_l; (focus exact RF.mk rfl); (focus exact RF.mk rfl); (focus exact RF.mk rfl); (focus exact RF.mk rfl); (focus exact RF.mk rfl)) | (apply dr_e; (focus exact RF.mk rfl); (focus exact RF.mk rfl); (focus exact RF.mk rfl); (focus exact RF.mk rfl)) | (apply rd_e; (focus exact xx); focus (repeat first | exact PO.nil | apply PO.zero | (apply PO.ld; (focus exact xx)))) | (apply rd_l; (focus exact xx)) | refine wh_seq ?_ | refine wh_skip ?_ | refine wh_block ?_ | refine wh_end ?_ | refine wh_exit ?_ | refine wh_ret ?_ | refine bk_norm ?_ | refine bk_exit ?_ | refine bk_ret ?_ | refine fr_exit ?_ | refine fr_ret ?_ | refine lp_exit ?_ | refine lp_ret ?_ | refine jn_exit ?_ | refine jn_ret ?_ | refine bk_other rfl ?_ | (apply wr; focus exact xx) | (apply wi; (focus exact xx); (focus exact xx); all_goals intro _; all_goals try first | contradiction | (exfalso; omega) | exact absurd trivial ‹_›) | refine wh_reg ?_ | refine wh_ife ?_ | (apply re; focus exact xx) | (apply rf; (focus exact xx); (focus exact xx); all_goals intro _; all_goals try first | contradiction | (exfalso; omega) | exact absurd trivial ‹_›) | (apply ra; (focus exact xx); (focus exact xx); intro _) | (apply r1; (focus exact xx); (focus exact xx); intro _) | (apply rl; (focus exact xx); (focus exact xx); intro _) | (apply rb; (focus exact xx); (focus exact xx); intro _) | (apply rsi; (focus exact xx); (focus exact xx); all_goals try infer_instance) | (apply rsz; (focus exact xx); (focus exact xx); all_goals try infer_instance) | (apply rt; (focus exact xx); (focus exact xx)) | (apply rso; (focus exact xx); (focus exact xx); all_goals try infer_instance) | (apply rmm; (focus exact xx); intro _) | (apply rsb; (focus exact xx); (focus exact xx)) | (apply ru; (focus exact xx); (focus exact xx)) | (apply rm; (focus exact xx); (focus exact xx); intro _) | (apply rk; (focus exact xx); (focus exact xx); intro _) | (apply rcf; (focus exact xx); (focus (apply ACF.mk; (focus exact xx); (focus exact inferInstance); (focus exact xx); (focus exact inferInstance); (focus exact xx); (focus exact rfl)))) | (apply rco; (focus exact xx); (focus (apply ACO.mk; (focus exact xx); (focus exact xx); (focus exact inferInstance); (focus exact xx); (focus exact xx))); intro _) | (apply rc; (focus exact xx); (focus exact xx)) | (apply rk'; (focus exact xx); (focus exact xx))
      refine ⟨k, _, Nat.lt_succ_self _, ⟨_, List.drop_sublist 1 _, pm_end (P := [_])⟩, es ++ [.row g8 xs], a1 + 1, n1, _, ⟨⟨by show a1 + 1 ≤ s.length; omega, hb⟩, ok3⟩, ?_, by simp; omega, ?_, rfl, ?_⟩
      · have := (line_ops ok (by rw [h2])).2
        rw [h2] at this
        simp only at this
        omega
      · rw [hR]; simp [NE.c]
      · simp only [rows_app, List.map_append]; rfl
  · rename_i hlt
    have hE : textC m ⟨s, a, n0, 0⟩ = ([], ⟨s, a, n0, 0⟩) := by
      cases m with
      | zero => rfl
      | succ m => rw [textC, if_neg (fun h => hlt (by have : a < s.length := h.2; omega))]
    rw [hE, List.append_nil] at hR
    repeat' first | (apply dr_fin; (focus exact xx)) | (apply dr_gt; (focus exact xx)) | (apply dr_gf; (focus exact xx); (focus first | exact .inl rfl | exact .inr rfl); focus (first | exact InD.no | (apply InD.so; (focus exact xx)))) | (apply dr_v; focus (apply DV.mk; (focus exact RF.mk rfl); (focus exact RF.mk rfl); (focus exact RF.mk rfl); (focus exact RF.mk rfl); (focus exact xx); focus (first | exact InD.no | (apply InD.so; (focus exact xx))))) | (apply dr_ve; focus (apply DVE.mk; (focus exact RF.mk rfl); (focus exact RF.mk rfl); (focus exact RF.mk rfl); (focus exact xx); focus (first | exact InD.no | (apply InD.so; (focus exact xx))))) | (apply dr_r; focus (apply DL.mk; (focus exact RF.mk rfl); (focus exact xx); (focus exact xx); focus (first | exact InD.no | (apply InD.so; (focus exact xx))))) | (apply dr_l; (focus exact RF.mk rfl); (focus exact RF.mk rfl); (focus exact RF.mk rfl); (focus exact RF.mk rfl); (focus exact RF.mk rfl)) | (apply dr_e; (focus exact RF.mk rfl); (focus exact RF.mk rfl); (focus exact RF.mk rfl); (focus exact RF.mk rfl)) | (apply rd_e; (focus exact xx); focus (repeat first | exact PO.nil | apply PO.zero | (apply PO.ld; (focus exact xx)))) | (apply rd_l; (focus exact xx)) | refine wh_seq ?_ | refine wh_skip ?_ | refine wh_block ?_ | refine wh_end ?_ | refine wh_exit ?_ | refine wh_ret ?_ | refine bk_norm ?_ | refine bk_exit ?_ | refine bk_ret ?_ | refine fr_exit ?_ | refine fr_ret ?_ | refine lp_exit ?_ | refine lp_ret ?_ | refine jn_exit ?_ | refine jn_ret ?_ | refine bk_other rfl ?_ | (apply wr; focus exact xx) | (apply wi; (focus exact xx); (focus exact xx); all_goals intro _; all_goals try first | contradiction | (exfalso; omega) | exact absurd trivial ‹_›) | refine wh_reg ?_ | refine wh_ife ?_ | (apply re; focus exact xx) | (apply rf; (focus exact xx); (focus exact xx); all_goals intro _; all_goals try first | contradiction | (exfalso; omega) | exact absurd trivial ‹_›) | (apply ra; (focus exact xx); (focus exact xx); intro _) | (apply r1; (focus exact xx); (focus exact xx); intro _) | (apply rl; (focus exact xx); (focus exact xx); intro _) | (apply rb; (focus exact xx); (focus exact xx); intro _) | (apply rsi; (focus exact xx); (focus exact xx); all_goals try infer_instance) | (apply rsz; (focus exact xx); (focus exact xx); all_goals try infer_instance) | (apply rt; (focus exact xx); (focus exact xx)) | (apply rso; (focus exact xx); (focus exact xx); all_goals try infer_instance) | (apply rmm; (focus exact xx); intro _) | (apply rsb; (focus exact xx); (focus exact xx)) | (apply ru; (focus exact xx); (focus exact xx)) | (apply rm; (focus exact xx); (focus exact xx); intro _) | (apply rk; (focus exact xx); (focus exact xx); intro _) | (apply rcf; (focus exact xx); (focus (apply ACF.mk; (focus exact xx); (focus exact inferInstance); (focus exact xx); (focus exact inferInstance); (focus exact xx); (focus exact rfl)))) | (apply rco; (focus exact xx); (focus (apply ACO.mk; (focus exact xx); (focus exact xx); (focus exact inferInstance); (focus exact xx); (focus exact xx))); intro _) | (apply rc; (focus exact xx); (focus exact xx)) | (apply rk'; (focus exact xx); (focus exact xx))
    refine fz ?_
    rw [readV, hR, if_pos rfl]⟩
end Go.AM

set_option linter.unusedVariables false
set_option linter.unusedSimpArgs false
namespace Go.AM
attribute [-simp] List.length_flatten List.map_flatten List.map_take List.map_map List.flatten_append
theorem eOp_inj {t u : Op} : ([V.bool t.w, .str t.v, .int .i64 t.x] = [V.bool u.w, .str u.v, .int .i64 u.x]) ↔ t = u := by
  cases t; cases u; simp
section
variable {α : Type} [Inhabited α] {a b : List α} {i : Nat}
theorem eq_step (hl : a.length = b.length) (hi : i < a.length) (h : a.take i = b.take i) (he : nth a i = nth b i) : a.take (i + 1) = b.take (i + 1) := by
  rw [take_nth hi, take_nth (by omega), h, he]
omit [Inhabited α] in
theorem eq_end (hl : a.length = b.length) (hi : i = a.length) (h : a.take i = b.take i) : a = b := by
  rw [hi, List.take_length, hl, List.take_length] at h; exact h
theorem ne_at (he : ¬ nth a i = nth b i) : ¬ a = b := fun h => he (by rw [h])
omit [Inhabited α] in
theorem ne_len (he : ¬ a.length = b.length) : ¬ a = b := fun h => he (by rw [h])
end
theorem ff {p : Prop} [Decidable p] (h : ¬ p) : V.bool false = V.bool (decide p) := by rw [decide_eq_false h]
theorem tt {p : Prop} [Decidable p] (h : p) : V.bool true = V.bool (decide p) := by rw [decide_eq_true h]
instance ref06_Same (a b : List (List Op)) : PCon T0 n.ref06_Same [eH a, eH b] false (hb a) (.bool (decide (a = b))) := ⟨fun ⟨h1, h2⟩ => by
  refine pc tabOk ?_
  repeat' first | (apply dr_fin; (focus exact xx)) | (apply dr_gt; (focus exact xx)) | (apply dr_gf; (focus exact xx); (focus first | exact .inl rfl | exact .inr rfl); focus (first | exact InD.no | (apply InD.so; (focus exact xx)))) | (apply dr_v; focus (apply DV.mk; (focus exact RF.mk rfl); (focus exact RF.mk rfl); (focus exact RF.mk rfl); (focus exact RF.mk rfl); (focus exact xx); focus (first | exact InD.no | (apply InD.so; (focus exact xx))))) | (apply dr_ve; focus (apply DVE.mk; (focus exact RF.mk rfl); (focus exact RF.mk rfl); (focus exact RF.mk rfl); (focus exact xx); focus (first | exact InD.no | (apply InD.so; (focus exact xx))))) | (apply dr_r; focus (apply DL.mk; (focus exact RF.mk rfl); (focus exact xx); (focus exact xx); focus (first | exact InD.no | (apply InD.so; (focus exact xx))))) | (apply dr_l; (focus exact RF.mk rfl); (focus exact RF.mk rfl); (focus exact RF.mk rfl); (focus exact RF.mk rfl); (focus exact RF.mk rfl)) | (apply dr_e; (focus exact RF.mk rfl); (focus exact RF.mk rfl); (focus exact RF.mk rfl); (focus exact RF.mk rfl)) | (apply rd_e; (focus exact xx); focus (repeat first | exact PO.nil | apply PO.zero | (apply PO.ld; (focus exact xx)))) | (apply rd_l; (focus exact xx)) | refine wh_seq ?_ | refine wh_skip ?_ | refine wh_block ?_ | refine wh_end ?_ | refine wh_exit ?_ | refine wh_ret ?_ | refine bk_norm ?_ | refine bk_exit ?_ | refine bk_ret ?_ | refine fr_exit ?_ | refine fr_ret ?_ | refine lp_exit ?_ | refine lp_ret ?_ | refine jn_exit ?_ | refine jn_ret ?_ | refine bk_other rfl ?_ | (apply wr; focus exact xx) | (apply wi; (focus exact xx); (focus exact xx); all_goals intro _; all_goals try first | contradiction | (exfalso; omega) | exact absurd trivial ‹_›) | refine wh_reg ?_ | refine wh_ife ?_ | (apply re; focus exact xx) | (apply rf; (focus exact xx); (focus exact xx); all_goals intro _; all_goals try first | contradiction | (exfalso; omega) | exact absurd trivial ‹_›) | (apply ra; (focus exact xx); (focus exact xx); intro _) | (apply r1; (focus exact xx); (focus exact xx); intro _) | (apply rl; (focus exact xx); (focus exact xx); intro _) | (apply rb; (focus exact xx); (focus exact xx); intro _) | (apply rsi; (focus exact xx); (focus exact xx); all_goals try infer_instance) | (apply rsz; (focus exact xx); (focus exact xx); all_goals try infer_instance) | (apply rt; (focus exact xx); (focus exact xx)) | (apply rso; (focus exact xx); (focus exact xx); all_goals try infer_instance) | (apply rmm; (focus exact xx); intro _) | (apply rsb; (focus exact xx); (focus exact xx)) | (apply ru; (focus exact xx); (focus exact xx)) | (apply rm; (focus exact xx); (focus exact xx); intro _) | (apply rk; (focus exact xx); (focus exact xx); intro _) | (apply rcf; (focus exact xx); (focus (apply ACF.mk; (focus exact xx); (focus exact inferInstance); (focus exact xx); (focus exact inferInstance); (focus exact xx); (focus exact rfl)))) | (apply rco; (focus exact xx); (focus (apply ACO.mk; (focus exact xx); (focus exact xx); (focus exact inferInstance); (focus exact xx); (focus exact xx))); intro _) | (apply rc; (focus exact xx); (focus exact xx)) | (apply rk'; (focus exact xx); (focus exact xx))
  · exact fz (ff (ne_len (by omega)))
  refine wh_count a.length (fun i A L => A = [(0, eH a), (1, eH b), (5, .int .i64 (i : Nat))] ∧ L = [] ∧ a.take i = b.take i) ⟨rfl, rfl, rfl⟩ ?_
  rintro i A L hi ⟨rfl, rfl, ha⟩
  have hl := @flat_len _ a i
  repeat' first | (apply dr_fin; (focus exact xx)) | (apply dr_gt; (focus exact xx)) | (apply dr_gf; (focus exact xx); (focus first | exact .inl rfl | exact .inr rfl); focus (first | exact InD.no | (apply InD.so; (focus exact xx)))) | (apply dr_v; focus (apply DV.mk; (focus exact RF.mk rfl); (focus exact RF.mk rfl); (focus exact RF.mk rfl); (focus exact RF.mk rfl); (focus exact xx); focus (first | exact InD.no | (apply InD.so; (focus exact xx))))) | (apply dr_ve; focus (apply DVE.mk; (focus exact RF.mk rfl); (focus exact RF.mk rfl); (focus exact RF.mk rfl); (focus exact xx); focus (first | exact InD.no | (apply InD.so; (focus exact xx))))) | (apply dr_r; focus (apply DL.mk; (focus exact RF.mk rfl); (focus exact xx); (focus exact xx); focus (first | exact InD.no | (apply InD.so; (focus exact xx))))) | (apply dr_l; (focus exact RF.mk rfl); (focus exact RF.mk rfl); (focus exact RF.mk rfl); (focus exact RF.mk rfl); (focus exact RF.mk rfl)) | (apply dr_e; (focus exact RF.mk rfl); (focus exact RF.mk rfl); (focus exact RF.mk rfl); (focus exact RF.mk rfl)) | (apply rd_e; (focus exact xx); focus (repeat first | exact PO.nil | apply PO.zero | (apply PO.ld; (focus exact xx)))) | (apply rd_l; (focus exact xx)) | refine wh_seq ?_ | refine wh_skip ?_ | refine wh_block ?_ | refine wh_end ?_ | refine wh_exit ?_ | refine wh_ret ?_ | refine bk_norm ?_ | refine bk_exit ?_ | refine bk_ret ?_ | refine fr_exit ?_ | refine fr_ret ?_ | refine lp_exit ?_ | refine lp_ret ?_ | refine jn_exit ?_ | refine jn_ret ?_ | refine bk_other rfl ?_ | (apply wr; focus exact xx) | (apply wi; (focus exact xx); (focus exact xx); all_goals intro _; all_goals try first | contradiction | (exfalso; omega) | exact absurd trivial ‹_›) | refine wh_reg ?_ | refine wh_ife ?_ | (apply re; focus exact xx) | (apply rf; (focus exact xx); (focus exact xx); all_goals intro _; all_goals try first | contradiction | (exfalso; omega) | exact absurd trivial ‹_›) | (apply ra; (focus exact xx); (focus exact xx); intro _) | (apply r1; (focus exact xx); (focus exact xx); intro _) | (apply rl; (focus exact xx); (focus exact xx); intro _) | (apply rb; (focus exact xx); (focus exact xx); intro _) | (apply rsi; (focus exact xx); (focus exact xx); all_goals try infer_instance) | (apply rsz; (focus exact xx); (focus exact xx); all_goals try infer_instance) | (apply rt; (focus exact xx); (focus exact xx)) | (apply rso; (focus exact xx); (focus exact xx); all_goals try infer_instance) | (apply rmm; (focus exact xx); intro _) | (apply rsb; (focus exact xx); (focus exact xx)) | (apply ru; (focus exact xx); (focus exact xx)) | (apply rm; (focus exact xx); (focus exact xx); intro _) | (apply rk; (focus exact xx); (focus exact xx); intro _) | (apply rcf; (focus exact xx); (focus (apply ACF.mk; (focus exact xx); (focus exact inferInstance); (focus exact xx); (focus exact inferInstance); (focus exact xx); (focus exact rfl)))) | (apply rco; (focus exact xx); (focus (apply ACO.mk; (focus exact xx); (focus exact xx); (focus exact inferInstance); (focus exact xx); (focus exact xx))); intro _) | (apply rc; (focus exact xx); (focus exact xx)) | (apply rk'; (focus exact xx); (focus exact xx))
  · exact fz (ff (ne_at (i := i) (ne_len (by omega))))
  · refine wh_count (nth a i).length (fun k A L => A = [(0, eH a), (1, eH b), (5, .int .i64 (i : Nat)), (6, .int .i64 (k : Nat))] ∧ L = [] ∧ (nth a i).take k = (nth b i).take k) ⟨rfl, rfl, rfl⟩ ?_
    rintro k A L hk ⟨rfl, rfl, hb⟩
    repeat' first | (apply dr_fin; (focus exact xx)) | (apply dr_gt; (focus exact xx)) | (apply dr_gf; (focus exact xx); (focus first | exact .inl rfl | exact .inr rfl); focus (first | exact InD.no | (apply InD.so; (focus exact xx)))) | (apply dr_v; focus (apply DV.mk; (focus exact RF.mk rfl); (focus exact RF.mk rfl); (focus exact RF.mk rfl); (focus exact RF.mk rfl); (focus exact xx); focus (first | exact InD.no | (apply InD.so; (focus exact xx))))) | (apply dr_ve; focus (apply DVE.mk; (focus exact RF.mk rfl); (focus exact RF.mk rfl); (focus exact RF.mk rfl); (focus exact xx); focus (first | exact InD.no | (apply InD.so; (focus exact xx))))) | (apply dr_r; focus (apply DL.mk; (focus exact RF.mk rfl); (focus exact xx); (focus exact xx); focus (first | exact InD.no | (apply InD.so; (focus exact xx))))) | (apply dr_l; (focus exact RF.mk rfl); (focus exact RF.mk rfl); (focus exact RF.mk rfl); (focus exact RF.mk rfl); (focus exact RF.mk rfl)) | (apply dr_e; (focus exact RF.mk rfl); (focus exact RF.mk rfl); (focus exact RF.mk rfl); (focus exact RF.mk rfl)) | (apply rd_e; (focus exact xx); focus (repeat first | exact PO.nil | apply PO.zero | (apply PO.ld; (focus exact xx)))) | (apply rd_l; (focus exact xx)) | refine wh_seq ?_ | refine wh_skip ?_ | refine wh_block ?_ | refine wh_end ?_ | refine wh_exit ?_ | refine wh_ret ?_ | refine bk_norm ?_ | refine bk_exit ?_ | refine bk_ret ?_ | refine fr_exit ?_ | refine fr_ret ?_ | refine lp_exit ?_ | refine lp_ret ?_ | refine jn_exit ?_ | refine jn_ret ?_ | refine bk_other rfl ?_ | (apply wr; focus exact xx) | (apply wi; (focus exact xx); (focus exact xx); all_goals intro _; all_goals try first | contradiction | (exfalso; omega) | exact absurd trivial ‹_›) | refine wh_reg ?_ | refine wh_ife ?_ | (apply re; focus exact xx) | (apply rf; (focus exact xx); (focus exact xx); all_goals intro _; all_goals try first | contradiction | (exfalso; omega) | exact absurd trivial ‹_›) | (apply ra; (focus exact xx); (focus exact xx); intro _) | (apply r1; (focus exact xx); (focus exact xx); intro _) | (apply rl; (focus exact xx); (focus exact xx); intro _) | (apply rb; (focus exact xx); (focus exact xx); intro _) | (apply rsi; (focus exact xx); (focus exact xx); all_goals try infer_instance) | (apply rsz; (focus exact xx); (focus exact xx); all_goals try infer_instance) | (apply rt; (focus exact xx); (focus exact xx)) | (apply rso; (focus exact xx); (focus exact xx); all_goals try infer_instance) | (apply rmm; (focus exact xx); intro _) | (apply rsb; (focus exact xx); (focus exact xx)) | (apply ru; (focus exact xx); (focus exact xx)) | (apply rm; (focus exact xx); (focus exact xx); intro _) | (apply rk; (focus exact xx); (focus exact xx); intro _) | (apply rcf; (focus exact xx); (focus (apply ACF.mk; (focus exact xx); (focus exact inferInstance); (focus exact xx); (focus exact inferInstance); (focus exact xx); (focus exact rfl)))) | (apply rco; (focus exact xx); (focus (apply ACO.mk; (focus exact xx); (focus exact xx); (focus exact inferInstance); (focus exact xx); (focus exact xx))); intro _) | (apply rc; (focus exact xx); (focus exact xx)) | (apply rk'; (focus exact xx); (focus exact xx))
    · rename_i h; rw [eOp_inj] at h; exact fz (ff (ne_at (i := i) (ne_at h)))
    · rename_i h; rw [eOp_inj, Decidable.not_not] at h; exact fr_next (by omega) sbc ⟨rfl, rfl, eq_step (by omega) (by omega) hb h⟩
    · exact fr_next (by omega) sbc ⟨rfl, rfl, eq_step (by omega) (by omega) ha (eq_end (by omega) (by omega) hb)⟩
  · exact fz (tt (eq_end (by omega) (by omega) ha))⟩
end Go.AM

set_option linter.unusedVariables false
set_option linter.unusedSimpArgs false
namespace Go.AM
attribute [-simp] List.length_flatten List.map_flatten List.map_take List.map_map List.flatten_append
def rdH (s : List UInt8) : List (List Op) := if (readT s).2.e = 0 then (readT s).1 else []
def rdI (s : List UInt8) : Nat := if (readT s).2.e = 0 then 0 else (readT s).2.at'
def rdE (s : List UInt8) : Int := (readT s).2.e
theorem readV_eq (s : List UInt8) : readV s = .tup [eH (rdH s), .int .i64 (rdI s : Nat), .int .i64 (rdE s)] := by
  unfold readV rdH rdI rdE
  split
  · rename_i h; rw [h]; rfl
  · rfl
theorem more_len : ∀ (m : Nat) (c : Cur), c.ops + (moreC m c).1.length = (moreC m c).2.ops
  | 0, _ => rfl
  | m + 1, c => by
    unfold moreC; split
    · have := more_len m (opC (takeC c 32))
      rw [(op_cs _).2, (take_s _ _).2.1] at this
      simp only [List.length_cons]; omega
    · rfl
theorem line_len (c : Cur) : c.ops + (lineV c).length = (lineC c).ops := by
  unfold lineV lineC; split
  · rw [(take_s _ _).2.1]; rfl
  · rw [(must_s _ _).2, ← more_len, (op_cs _).2, List.length_cons]; omega
theorem line_ops1 {c : Cur} (h : okL c) : (lineC c).ops ≤ (lineC c).at' + 1 := by
  unfold lineC; split
  · have := h.2
    rw [(take_s _ _).2.1]; have := take_at c 10; omega
  · have h1 : (opC c).ops ≤ (opC c).at' + 1 := by rw [(op_cs c).2]; have := op_at c; have := h.2; omega
    have h2 := more_ops (m := c.s.length) h1
    rw [(must_s _ _).2]
    have := must_at (moreC c.s.length (opC c)).2 10
    omega
/-- What holds of a text that is read. -/
theorem text_inv : ∀ (m : Nat) (c : Cur), okCu c → (c.e = 0 → okL c) → c.ops ≤ c.at' + 1 → (textC m c).1.length ≤ m ∧ c.ops + (textC m c).1.flatten.length = (textC m c).2.ops ∧ okCu (textC m c).2 ∧ (textC m c).2.ops ≤ (textC m c).2.at' + 1 ∧ (textC m c).2.s = c.s
  | 0, c, h1, _, h2 => ⟨Nat.le_refl _, rfl, h1, h2, rfl⟩
  | m + 1, c, h1, h2, h3 => by
    unfold textC; split
    · rename_i h
      have ok := h2 h.1
      obtain ⟨k1, k2, k3, k4, k5⟩ := text_inv m (lineC c) (line_ok ok) (fun he => (line_ops ok he).1) (line_ops1 ok)
      refine ⟨by simp; omega, ?_, k3, k4, k5.trans (line_s c)⟩
      have := line_len c
      simp only [List.flatten_cons, List.length_append]
      omega
    · exact ⟨Nat.zero_le _, rfl, h1, h3, rfl⟩
theorem read_inv {s : List UInt8} (hs : s.length ≤ 1048576) : (readT s).1.length ≤ s.length ∧ (readT s).1.flatten.length = (readT s).2.ops ∧ okCu (readT s).2 ∧ (readT s).2.ops ≤ (readT s).2.at' + 1 ∧ (readT s).2.s = s := by
  have := text_inv s.length ⟨s, 0, 0, 0⟩ ⟨Nat.zero_le _, hs⟩ (fun _ => ⟨⟨Nat.zero_le _, hs⟩, Nat.le_refl _⟩) (Nat.zero_le _)
  rw [show (⟨s, 0, 0, 0⟩ : Cur).ops = 0 from rfl, Nat.zero_add] at this
  exact this
theorem rd_hb {s : List UInt8} (hs : s.length ≤ 1000000) : hb (rdH s) := by
  obtain ⟨h1, h2, h3, h4, h5⟩ := read_inv (s := s) (by omega)
  unfold rdH; split
  · refine ⟨by omega, ?_⟩
    have := h3.1
    rw [h5] at this
    omega
  · exact ⟨by decide, by decide⟩
abbrev exA : List UInt8 := [119, 58, 120, 61, 49, 32, 114, 58, 121, 61, 48, 10]
abbrev exB : List UInt8 := [119, 58, 120, 61, 49, 32, 114, 58, 121, 61, 48, 48, 10]
theorem exA_v : readV exA = .tup [eH [[⟨true, [120], 1⟩, ⟨false, [121], 0⟩]], .int .i64 0, .int .i64 0] := by decide +kernel
theorem exB_v : readV exB = .tup [eH [], .int .i64 10, .int .i64 2] := by decide +kernel
def okT (s : List UInt8) : Prop := s.length ≤ 1048576
end Go.AM

set_option linter.unusedVariables false
set_option linter.unusedSimpArgs false
namespace Go.AM
attribute [-simp] List.length_flatten List.map_flatten List.map_take List.map_map List.flatten_append
/-! Two cursors that see the same, up to the line's end. -/
def sfx (c : Cur) : List UInt8 := c.s.drop c.at'
theorem drop_cons {s : List UInt8} {a : Nat} {x : UInt8} {t : List UInt8} (h : s.drop a = x :: t) : a < s.length ∧ nth s a = x ∧ s.drop (a + 1) = t := by
  have hl : a < s.length := by
    by_cases h' : a < s.length
    · exact h'
    · rw [List.drop_of_length_le (by omega)] at h; cases h
  rw [List.drop_eq_getElem_cons hl, ← nth_eq hl] at h
  injection h with h1 h2
  exact ⟨hl, h1, h2⟩
theorem sees_sfx {c : Cur} {b x : UInt8} {t : List UInt8} (h : sfx c = x :: t) : seesC c b = (decide (c.e = 0) && decide (x = b)) := by
  obtain ⟨h1, h2, h3⟩ := drop_cons h
  rw [seesC, h2, decide_eq_true h1, Bool.true_and]
/-- k: how much further the second one stands; r, r': what stands behind the line. -/
structure Sm (k : Nat) (r r' : List UInt8) (u : List UInt8) (c c' : Cur) : Prop where
  at' : c'.at' = c.at' + k
  ops : c'.ops = c.ops
  e : c'.e = c.e
  no : (10 : UInt8) ∉ u
  s : sfx c = u ++ 10 :: r
  s' : sfx c' = u ++ 10 :: r'
section
variable {k : Nat} {r r' u : List UInt8} {c c' : Cur}
theorem Sm.sees (h : Sm k r r' u c c') (b : UInt8) : seesC c' b = seesC c b := by
  cases u with
  | nil => rw [sees_sfx (t := r) h.s, sees_sfx (t := r') h.s', h.e]
  | cons x u => rw [sees_sfx (t := u ++ 10 :: r) h.s, sees_sfx (t := u ++ 10 :: r') h.s', h.e]
theorem Sm.fail (h : Sm k r r' u c c') (e : Int) : Sm k r r' u (failC c e) (failC c' e) := by
  unfold failC; rw [h.e]; split
  · exact ⟨h.at', h.ops, rfl, h.no, h.s, h.s'⟩
  · exact h
/-- n signs are gone over. -/
theorem Sm.go (h : Sm k r r' u c c') {n : Nat} (hn : n ≤ u.length) : Sm k r r' (u.drop n) { c with at' := c.at' + n } { c' with at' := c'.at' + n } := by
  refine ⟨?_, h.ops, h.e, fun h' => h.no (List.mem_of_mem_drop h'), ?_, ?_⟩
  · show c'.at' + n = c.at' + n + k
    rw [h.at']; omega
  · show c.s.drop (c.at' + n) = _
    have := h.s; unfold sfx at this
    rw [← List.drop_drop, this, List.drop_append_of_le_length hn]
  · show c'.s.drop (c'.at' + n) = _
    have := h.s'; unfold sfx at this
    rw [← List.drop_drop, this, List.drop_append_of_le_length hn]
theorem Sm.take (h : Sm k r r' u c c') {b : UInt8} (hb : b ≠ 10) : ∃ u', Sm k r r' u' (takeC c b) (takeC c' b) := by
  unfold takeC; rw [h.sees b]; split
  · rename_i hs
    refine ⟨u.drop 1, h.go ?_⟩
    cases u with
    | nil =>
      rw [sees_sfx (t := r) h.s] at hs
      simp only [Bool.and_eq_true, decide_eq_true_eq] at hs
      exact absurd hs.2.symm hb
    | cons x u => simp
  · exact ⟨u, h⟩
theorem Sm.must (h : Sm k r r' u c c') {b : UInt8} (hb : b ≠ 10) : ∃ u', Sm k r r' u' (mustC c b) (mustC c' b) := by
  obtain ⟨u', h'⟩ := h.take hb
  unfold mustC; rw [h.sees b]; split
  · exact ⟨u', h'⟩
  · exact ⟨u', h'.fail 2⟩
theorem tw_app {p : UInt8 → Bool} (hp : p 10 = false) (u r : List UInt8) : (u ++ 10 :: r).takeWhile p = u.takeWhile p := by
  induction u with
  | nil => simp [hp]
  | cons a u ih =>
    simp only [List.cons_append, List.takeWhile_cons, ih]
theorem tw_le {p : UInt8 → Bool} (u : List UInt8) : (u.takeWhile p).length ≤ u.length := by
  have := tw_dw (p := p) u; omega
theorem Sm.nameN (h : Sm k r r' u c c') : Go.AM.nameN c' = Go.AM.nameN c ∧ Go.AM.nameN c ≤ u.length := by
  have h1 := h.s; have h2 := h.s'; unfold sfx at h1 h2
  unfold Go.AM.nameN
  rw [h1, h2, tw_app (by decide), tw_app (by decide), h.e]
  refine ⟨rfl, ?_⟩
  split
  · have := tw_le (p := low) u; omega
  · omega
theorem Sm.name (h : Sm k r r' u c c') : (∃ u', Sm k r r' u' (nameC c) (nameC c')) ∧ (c'.s.drop c'.at').take (Go.AM.nameN c') = (c.s.drop c.at').take (Go.AM.nameN c) := by
  obtain ⟨h1, h2⟩ := h.nameN
  constructor
  · unfold nameC; rw [h1]; split
    · exact ⟨u, h.fail 2⟩
    · exact ⟨_, h.go h2⟩
  · have h3 := h.s; have h4 := h.s'; unfold sfx at h3 h4
    rw [h1, h3, h4, List.take_append_of_le_length h2, List.take_append_of_le_length h2]
theorem sgn_app (u r r' : List UInt8) : sgn (u ++ 10 :: r) = sgn (u ++ 10 :: r') ∧ sgn (u ++ 10 :: r) ≤ u.length := by
  cases u with
  | nil => exact ⟨rfl, by simp [sgn]⟩
  | cons x u =>
    constructor
    · simp only [sgn, List.cons_append, List.isPrefixOf]
    · simp only [sgn, List.cons_append, List.isPrefixOf]
      split <;> simp
theorem spanR_app (u r r' : List UInt8) : spanR (u ++ 10 :: r) = spanR (u ++ 10 :: r') ∧ spanR (u ++ 10 :: r) ≤ u.length := by
  obtain ⟨h1, h2⟩ := sgn_app u r r'
  unfold spanR
  rw [← h1, List.drop_append_of_le_length h2, List.drop_append_of_le_length h2, tw_app (by decide), tw_app (by decide)]
  refine ⟨rfl, ?_⟩
  have := tw_le (p := dig) (u.drop (sgn (u ++ 10 :: r)))
  rw [List.length_drop] at this; omega
theorem span_sfx {c : Cur} {x : UInt8} {t : List UInt8} (h : sfx c = x :: t) : (spanI c.s c.at').toNat = spanR (sfx c) := by
  obtain ⟨h1, h2, h3⟩ := drop_cons h
  unfold spanI sfx
  rw [if_neg (by omega)]; rfl
theorem ne_cons (u r : List UInt8) : ∃ x t, u ++ 10 :: r = x :: t := by
  cases u with
  | nil => exact ⟨_, _, rfl⟩
  | cons x u => exact ⟨_, _, rfl⟩
theorem Sm.number (h : Sm k r r' u c c') : (∃ u', Sm k r r' u' (numberC c) (numberC c')) ∧ numberV c' = numberV c := by
  have hs : (spanI c.s c.at').toNat = spanR (u ++ 10 :: r) := by
    obtain ⟨x, t, hx⟩ := ne_cons u r
    rw [span_sfx (h.s.trans hx), h.s]
  have hs' : (spanI c'.s c'.at').toNat = spanR (u ++ 10 :: r') := by
    obtain ⟨x, t, hx⟩ := ne_cons u r'
    rw [span_sfx (h.s'.trans hx), h.s']
  obtain ⟨h1, h2⟩ := spanR_app u r r'
  have hT : numT c' = numT c := by
    have h3 := h.s; have h4 := h.s'; unfold sfx at h3 h4
    unfold numT
    rw [hs, hs', h3, h4, ← h1, List.take_append_of_le_length h2, List.take_append_of_le_length h2]
  constructor
  · unfold numberC
    rw [hT, hs, hs', ← h1]
    by_cases h0 : c.e = 0
    · rw [if_pos h0, if_pos (h.e.trans h0)]
      split
      · exact ⟨_, h.go h2⟩
      · exact ⟨u, h.fail _⟩
    · rw [if_neg h0, if_neg (by rw [h.e]; exact h0)]
      exact ⟨u, h⟩
  · unfold numberV; rw [hT, h.e]
theorem Sm.op (h : Sm k r r' u c c') : (∃ u', Sm k r r' u' (opC c) (opC c')) ∧ opV c' = opV c := by
  obtain ⟨u1, h1⟩ : ∃ u', Sm k r r' u' (op1 c) (op1 c') := by
    unfold op1; rw [h.ops, h.sees, h.sees]; split
    · exact ⟨u, h.fail 3⟩
    · exact ⟨u, h⟩
  obtain ⟨u2, h2⟩ : ∃ u', Sm k r r' u' (op2 c) (op2 c') := h1.take (by decide)
  obtain ⟨u3, h3⟩ : ∃ u', Sm k r r' u' (op3 c) (op3 c') := by
    unfold op3; rw [h1.sees]; split
    · exact ⟨u2, h2⟩
    · exact h2.must (by decide)
  obtain ⟨u4, h4⟩ : ∃ u', Sm k r r' u' (op4 c) (op4 c') := h3.must (by decide)
  obtain ⟨⟨u5, h5⟩, hn⟩ := h4.name
  obtain ⟨u6, h6⟩ : ∃ u', Sm k r r' u' (op6 c) (op6 c') := Sm.must (c := op5 c) (c' := op5 c') h5 (by decide)
  obtain ⟨⟨u7, h7⟩, hv⟩ := h6.number
  refine ⟨⟨u7, h7.at', ?_, h7.e, h7.no, h7.s, h7.s'⟩, ?_⟩
  · show (op7 c').ops + 1 = (op7 c).ops + 1
    rw [show (op7 c').ops = (op7 c).ops from h7.ops]
  · unfold opV; rw [h1.sees, hn, hv]
theorem Sm.more : ∀ {m : Nat} {u : List UInt8} {c c' : Cur}, Sm k r r' u c c' → ∀ {m' : Nat}, (sfx c).length ≤ m → (sfx c').length ≤ m' → (∃ u', Sm k r r' u' (moreC m c).2 (moreC m' c').2) ∧ (moreC m' c').1 = (moreC m c).1 := by
  intro m
  induction m with
  | zero => intro u c c' h m' hm; rw [h.s] at hm; simp at hm
  | succ m ih =>
    intro u c c' h m' hm hm'
    cases m' with
    | zero => rw [h.s'] at hm'; simp at hm'
    | succ m' =>
      unfold moreC
      rw [h.sees]
      split
      · rename_i hs
        obtain ⟨u1, h1⟩ := h.take (b := 32) (by decide)
        obtain ⟨⟨u2, h2⟩, hv⟩ := h1.op
        have hs' : seesC c' 32 = true := by rw [h.sees]; exact hs
        have k1 : (sfx (opC (takeC c 32))).length ≤ m := by
          have h5 := op_at (takeC c 32)
          rw [take_yes hs] at h5 ⊢
          have h6 := (op_cs { c with at' := c.at' + 1 }).1
          unfold sfx at hm ⊢
          rw [h6]
          rw [List.length_drop] at hm ⊢
          simp only at h5 ⊢
          have := (sees_lt hs).2.1
          omega
        have k2 : (sfx (opC (takeC c' 32))).length ≤ m' := by
          have h5 := op_at (takeC c' 32)
          rw [take_yes hs'] at h5 ⊢
          have h6 := (op_cs { c' with at' := c'.at' + 1 }).1
          unfold sfx at hm' ⊢
          rw [h6]
          rw [List.length_drop] at hm' ⊢
          simp only at h5 ⊢
          have := (sees_lt hs').2.1
          omega
        obtain ⟨h7, h8⟩ := ih h2 k1 k2
        exact ⟨h7, by rw [hv, h8]⟩
      · exact ⟨⟨u, h⟩, rfl⟩
/-- A line, read alike. -/
theorem Sm.line (h : Sm k r r' u c c') : (lineC c').at' = (lineC c).at' + k ∧ (lineC c').ops = (lineC c).ops ∧ (lineC c').e = (lineC c).e ∧ lineV c' = lineV c ∧ ((lineC c).e = 0 → sfx (lineC c) = r ∧ sfx (lineC c') = r') := by
  have fin : ∀ {u : List UInt8} {c c' : Cur}, Sm k r r' u c c' → seesC c 10 = true → ({ c' with at' := c'.at' + 1 } : Cur).at' = ({ c with at' := c.at' + 1 } : Cur).at' + k ∧ sfx { c with at' := c.at' + 1 } = r ∧ sfx { c' with at' := c'.at' + 1 } = r' := by
    intro u c c' h hs
    cases u with
    | nil => exact ⟨by show c'.at' + 1 = c.at' + 1 + k; rw [h.at']; omega, (drop_cons (t := r) h.s).2.2, (drop_cons (t := r') h.s').2.2⟩
    | cons x u =>
      rw [sees_sfx (t := u ++ 10 :: r) h.s] at hs
      simp only [Bool.and_eq_true, decide_eq_true_eq] at hs
      exact absurd (by rw [hs.2]; exact List.mem_cons_self) h.no
  unfold lineC lineV
  rw [h.sees]
  split
  · rename_i hs
    have hs' : seesC c' 10 = true := by rw [h.sees]; exact hs
    rw [take_yes hs, take_yes hs']
    obtain ⟨h1, h2, h3⟩ := fin h hs
    exact ⟨h1, h.ops, h.e, rfl, fun _ => ⟨h2, h3⟩⟩
  · obtain ⟨⟨u1, h1⟩, hv⟩ := h.op
    have k1 : (sfx (opC c)).length ≤ c.s.length := by unfold sfx; rw [List.length_drop, (op_cs c).1]; omega
    have k2 : (sfx (opC c')).length ≤ c'.s.length := by unfold sfx; rw [List.length_drop, (op_cs c').1]; omega
    obtain ⟨⟨u2, h2⟩, h3⟩ := h1.more k1 k2
    rw [hv, h3]
    generalize (moreC c.s.length (opC c)).2 = d at *
    generalize (moreC c'.s.length (opC c')).2 = d' at *
    by_cases hs : seesC d 10 = true
    · have hs' : seesC d' 10 = true := by rw [h2.sees]; exact hs
      rw [must_yes hs, must_yes hs']
      obtain ⟨h4, h5, h6⟩ := fin h2 hs
      exact ⟨h4, h2.ops, h2.e, rfl, fun _ => ⟨h5, h6⟩⟩
    · have hs' : ¬ seesC d' 10 = true := by rw [h2.sees]; exact hs
      have he : ∀ c : Cur, ¬ seesC c 10 = true → mustC c 10 = failC c 2 := fun c h => by rw [mustC, if_neg h, take_no h]
      rw [he d hs, he d' hs']
      have h4 := h2.fail 2
      refine ⟨h4.at', h4.ops, h4.e, rfl, fun h0 => ?_⟩
      exfalso
      unfold failC at h0
      split at h0
      · cases h0
      · contradiction
end
end Go.AM

set_option linter.unusedVariables false
set_option linter.unusedSimpArgs false
namespace Go.AM
attribute [-simp] List.length_flatten List.map_flatten List.map_take List.map_map List.flatten_append
/-! What may be wrong. -/
def ok3 (c : Cur) : Prop := c.e = 0 ∨ c.e = 2 ∨ c.e = 3
theorem getS_e (s : List UInt8) : (getS s).2 = 0 ∨ (getS s).2 = 2 ∨ (getS s).2 = 3 := by
  unfold getS
  repeat' split
  all_goals simp
theorem fail_3 {c : Cur} {e : Int} (h : ok3 c) (he : e = 0 ∨ e = 2 ∨ e = 3) : ok3 (failC c e) := by
  unfold failC; split
  · exact he
  · exact h
theorem take_3 {c : Cur} {b : UInt8} (h : ok3 c) : ok3 (takeC c b) := by
  unfold takeC; split <;> exact h
theorem must_3 {c : Cur} {b : UInt8} (h : ok3 c) : ok3 (mustC c b) := by
  unfold mustC; split
  · exact take_3 h
  · exact fail_3 (take_3 h) (.inr (.inl rfl))
theorem name_3 {c : Cur} (h : ok3 c) : ok3 (nameC c) := by
  unfold nameC; split
  · exact fail_3 h (.inr (.inl rfl))
  · exact h
theorem number_3 {c : Cur} (h : ok3 c) : ok3 (numberC c) := by
  unfold numberC; split
  · split
    · exact h
    · exact fail_3 h (getS_e _)
  · exact h
theorem op_3 {c : Cur} (h : ok3 c) : ok3 (opC c) := by
  have h1 : ok3 (op1 c) := by
    unfold op1; split
    · exact fail_3 h (.inr (.inr rfl))
    · exact h
  have h3 : ok3 (op3 c) := by
    unfold op3; split
    · exact take_3 h1
    · exact must_3 (take_3 h1)
  have h7 : ok3 (op7 c) := number_3 (must_3 (name_3 (must_3 h3)))
  exact h7
theorem more_3 : ∀ {m : Nat} {c : Cur}, ok3 c → ok3 (moreC m c).2
  | 0, _, h => h
  | m + 1, c, h => by
    unfold moreC; split
    · exact more_3 (op_3 (take_3 h))
    · exact h
theorem line_3 {c : Cur} (h : ok3 c) : ok3 (lineC c) := by
  unfold lineC; split
  · exact take_3 h
  · exact must_3 (more_3 (op_3 h))
theorem text_3 : ∀ {m : Nat} {c : Cur}, ok3 c → ok3 (textC m c).2
  | 0, _, h => h
  | m + 1, c, h => by
    unfold textC; split
    · exact text_3 (line_3 h)
    · exact h
/-! An operation that is read is right. -/
theorem must_e0 {c : Cur} {b : UInt8} (h : (mustC c b).e = 0) : c.e = 0 := (sees_lt (must_e h)).1
theorem name_e0 {c : Cur} (h : (nameC c).e = 0) : c.e = 0 ∧ nameN c ≠ 0 := by
  unfold nameC at h
  split at h
  · unfold failC at h
    split at h
    · cases h
    · contradiction
  · exact ⟨h, by assumption⟩
theorem number_e0 {c : Cur} (h : (numberC c).e = 0) : c.e = 0 := by
  unfold numberC at h
  split at h
  · assumption
  · exact h
theorem op_right {c : Cur} (h : (opC c).e = 0) : nameB (opV c).v = true ∧ c.ops ≠ 4096 ∧ c.e = 0 := by
  have h6 : (op6 c).e = 0 := number_e0 h
  have h5 : (op5 c).e = 0 := must_e0 h6
  obtain ⟨h4, hn⟩ := name_e0 h5
  have h3 : (op3 c).e = 0 := must_e0 h4
  have h1 : (op1 c).e = 0 ∧ (seesC (op1 c) 119 = true ∨ seesC (op1 c) 114 = true) := by
    unfold op3 at h3
    split at h3
    · rename_i hs
      exact ⟨(sees_lt hs).1, .inl hs⟩
    · rename_i hs
      have h2 := must_e h3
      rw [show op2 c = op1 c from take_no hs] at h2
      exact ⟨(sees_lt h2).1, .inr h2⟩
  refine ⟨?_, ?_⟩
  · have hN := hn
    unfold nameN at hN
    rw [if_pos h4] at hN
    show nameB ((((op4 c).s.drop (op4 c).at').take (nameN (op4 c)))) = true
    generalize hl : (op4 c).s.drop (op4 c).at' = l at *
    have hm : nameN (op4 c) = min 8 (l.takeWhile low).length := by rw [nameN, if_pos h4, hl]
    rw [hm]
    have hle := tw_le (p := low) l
    have hall : (l.take (min 8 (l.takeWhile low).length)).all low = true := by
      have : l.take (min 8 (l.takeWhile low).length) = (l.takeWhile low).take (min 8 (l.takeWhile low).length) := by
        conv => lhs; rw [← List.takeWhile_append_dropWhile (p := low) (l := l)]
        rw [List.take_append_of_le_length (by rw [List.takeWhile_append_dropWhile]; omega), List.takeWhile_append_dropWhile]
      rw [this]
      exact List.all_eq_true.2 fun x hx => List.all_eq_true.1 List.all_takeWhile x (List.mem_of_mem_take hx)
    have hlen : (l.take (min 8 (l.takeWhile low).length)).length = min 8 (l.takeWhile low).length := by rw [List.length_take]; omega
    rw [nameB, hall, hlen]
    simp; omega
  · by_cases hs : small c
    · rw [op1_id hs] at h1
      exact ⟨fun h0 => hs ⟨h0, h1.2⟩, h1.1⟩
    · have : (op1 c).e ≠ 0 ∨ c.e = 0 := by
        by_cases h0 : c.e = 0
        · exact .inr h0
        · exact .inl (by rw [op1, if_pos (Decidable.not_not.1 hs), stuck_fail h0]; exact h0)
      have h0 := this.resolve_left (fun h' => h' h1.1)
      rw [op_large h0 hs] at h
      cases h
theorem more_right : ∀ {m : Nat} {c : Cur}, (moreC m c).2.e = 0 → c.ops ≤ 4096 → c.e = 0 ∧ (moreC m c).2.ops ≤ 4096 ∧ ∀ o ∈ (moreC m c).1, nameB o.v = true
  | 0, c, h, hn => ⟨h, hn, fun o ho => by cases ho⟩
  | m + 1, c, h, hn => by
    unfold moreC at h ⊢; split
    · rename_i hs
      rw [if_pos hs] at h
      have hT : (takeC c 32).ops = c.ops := (take_s _ _).2.1
      have key : (opC (takeC c 32)).e = 0 := by
        by_cases h0 : (opC (takeC c 32)).e = 0
        · exact h0
        · rw [stuck_more h0] at h; exact h
      obtain ⟨h1, h2, h3⟩ := op_right key
      obtain ⟨-, h5, h6⟩ := more_right (m := m) h (by rw [(op_cs _).2]; omega)
      refine ⟨(sees_lt hs).1, h5, fun o ho => ?_⟩
      rcases List.mem_cons.1 ho with rfl | ho
      · exact h1
      · exact h6 o ho
    · rename_i hs
      rw [if_neg hs] at h
      exact ⟨h, hn, fun o ho => by cases ho⟩
theorem line_right {c : Cur} (h : (lineC c).e = 0) (hn : c.ops ≤ 4096) : c.e = 0 ∧ (lineC c).ops ≤ 4096 ∧ nth c.s ((lineC c).at' - 1) = 10 ∧ ∀ o ∈ lineV c, nameB o.v = true := by
  unfold lineC lineV at *
  split
  · rename_i hs
    rw [take_yes hs]
    obtain ⟨h1, h2, h3⟩ := sees_lt hs
    exact ⟨h1, hn, h3, fun o ho => by cases ho⟩
  · rename_i hs
    rw [if_neg hs] at h
    have h1 := must_e h
    have h2 := (sees_lt h1).1
    have h3 : (opC c).e = 0 := by
      by_cases h0 : (opC c).e = 0
      · exact h0
      · rw [stuck_more h0] at h2; exact h2
    obtain ⟨k1, k2, k3⟩ := op_right h3
    obtain ⟨-, h5, h6⟩ := more_right h2 (by rw [(op_cs _).2]; omega)
    refine ⟨k3, by rw [(must_s _ _).2]; exact h5, ?_, fun o ho => ?_⟩
    · rw [must_yes h1]
      have h7 := (sees_lt h1).2.2
      rw [more_s, (op_cs _).1] at h7
      exact h7
    · rcases List.mem_cons.1 ho with rfl | ho
      · exact k1
      · exact h6 o ho
theorem text_right : ∀ {m : Nat} {c : Cur}, (textC m c).2.e = 0 → c.ops ≤ 4096 → okL c → c.s.length - c.at' ≤ m → (c.at' = 0 ∨ nth c.s (c.at' - 1) = 10) → (textC m c).2.ops ≤ 4096 ∧ (∀ o ∈ (textC m c).1.flatten, nameB o.v = true) ∧ (textC m c).2.at' = c.s.length ∧ (c.s.length = 0 ∨ nth c.s (c.s.length - 1) = 10)
  | 0, c, h, hn, ok, hm, h10 => by
    have h1 := ok.1.1
    have h2 : c.at' = c.s.length := by omega
    exact ⟨hn, (fun o ho => by simp [textC] at ho), h2, (by rw [← h2]; exact h10)⟩
  | m + 1, c, h, hn, ok, hm, h10 => by
    unfold textC at h ⊢; split
    · rename_i hc
      rw [if_pos hc] at h
      have he : (lineC c).e = 0 := by
        by_cases h0 : (lineC c).e = 0
        · exact h0
        · rw [stuck_text h0] at h; exact h
      obtain ⟨-, h1, h2, h3⟩ := line_right he hn
      obtain ⟨k1, k2⟩ := line_ops ok he
      obtain ⟨k3, k4, k5, k6⟩ := text_right (m := m) h h1 k1 (by rw [line_s]; omega) (by rw [line_s]; exact .inr h2)
      rw [line_s] at k5 k6
      refine ⟨k3, fun o ho => ?_, k5, k6⟩
      rw [List.flatten_cons] at ho
      rcases List.mem_append.1 ho with ho | ho
      · exact h3 o ho
      · exact k4 o ho
    · rename_i hc
      rw [if_neg hc] at h
      have h1 := ok.1.1
      have h2 : c.at' = c.s.length := by
        by_cases h' : c.at' < c.s.length
        · exact absurd ⟨h, h'⟩ hc
        · omega
      exact ⟨hn, (fun o ho => by simp [textC] at ho), h2, (by rw [← h2]; exact h10)⟩
theorem read_right {s : List UInt8} (hs : s.length ≤ 1048576) (he : (readT s).2.e = 0) : rightB (readT s).1 = true ∧ (s.length = 0 ∨ nth s (s.length - 1) = 10) := by
  obtain ⟨h1, h2, h3, h4⟩ := text_right (m := s.length) (c := ⟨s, 0, 0, 0⟩) he (Nat.zero_le _) ⟨⟨Nat.zero_le _, hs⟩, Nat.le_refl _⟩ (Nat.le_refl _) (.inl rfl)
  refine ⟨?_, h4⟩
  have h5 := (read_inv hs).2.1
  rw [rightB, Bool.and_eq_true, List.all_eq_true, decide_eq_true_eq]
  exact ⟨h2, by rw [h5]; exact h1⟩
/-- A line without an end. -/
theorem line_open {c : Cur} (h : (10 : UInt8) ∉ sfx c) : ¬ (lineC c).e = 0 := by
  intro he
  have key : ∀ d : Cur, d.s = c.s → c.at' ≤ d.at' → seesC d 10 = true → False := fun d hs ha h' => by
    obtain ⟨h1, h2, h3⟩ := sees_lt h'
    rw [hs] at h2 h3
    refine h ?_
    unfold sfx
    rw [← h3, nth_eq h2, List.mem_iff_getElem]
    exact ⟨d.at' - c.at', by rw [List.length_drop]; omega, by rw [List.getElem_drop]; congr 1; omega⟩
  unfold lineC at he
  split at he
  · rename_i hs; exact key c rfl (Nat.le_refl _) hs
  · refine key _ (more_s.trans (op_cs _).1) ?_ (must_e he)
    exact Nat.le_trans (op_at c) more_at
end Go.AM

