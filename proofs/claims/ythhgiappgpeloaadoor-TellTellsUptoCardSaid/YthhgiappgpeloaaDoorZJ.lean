/- Part ZJ of the proof. -/
import Derived.Test.YthhgiappgpeloaaDoorZA
import Derived.Lib.TrailingZeros
import Derived.Test.YthhgiappgpeloaaDoorZE
set_option linter.unusedVariables false
set_option linter.unusedSimpArgs false
namespace Go.AM
open Go.Lib
attribute [-simp] List.length_flatten List.map_flatten List.map_take List.map_map List.flatten_append
/-! Words of bits. -/
@[reducible] def eW (x : Nat) : V := .int .u64 (x : Nat)
@[reducible] def eN (x : Nat) : V := .int .i64 (x : Nat)
def okW (x : Nat) : Prop := x < 18446744073709551616
/-- The bits of a word, in order. -/
def bitsW (x : Nat) : List Nat := (List.range 64).filter fun i => x.testBit i
theorem filter_cut {p q : Nat → Bool} {k : Nat} (hp : p k = true) (h0 : ∀ j, j < k → p j = false) (hq : ∀ j, q j = (decide (k < j) && p j)) : ∀ n, k < n → (List.range n).filter p = k :: (List.range n).filter q
  | 0, h => by omega
  | n + 1, h => by
    rw [List.range_succ, List.filter_append, List.filter_append]
    by_cases hk : k < n
    · rw [filter_cut hp h0 hq n hk, List.cons_append]
      congr 2
      simp only [List.filter_cons, List.filter_nil, hq n, decide_eq_true hk, Bool.true_and]
    · obtain rfl : k = n := by omega
      have e1 : (List.range k).filter p = [] := List.filter_eq_nil_iff.2 fun j hj => by rw [h0 j (List.mem_range.1 hj)]; simp
      have e2 : (List.range k).filter q = [] := List.filter_eq_nil_iff.2 fun j hj => by rw [hq, h0 j (List.mem_range.1 hj)]; simp
      rw [e1, e2]
      simp [hp, hq]
theorem bits_step {y : Nat} (h0 : y ≠ 0) (hy : okW y) : ctz 64 y < 64 ∧ bitsW y = ctz 64 y :: bitsW (y &&& (y - 1)) := by
  obtain ⟨m, hm, hk⟩ := ctzFrom_spec 64 y (by omega) hy
  have ek : ctz 64 y = ctzFrom 64 y := by rw [ctz, if_neg h0]
  rw [ek]
  generalize ctzFrom 64 y = k at hm hk
  refine ⟨hk, ?_⟩
  have hpos : 0 < 2 ^ k := Nat.two_pow_pos k
  have y1 : ∀ j, y.testBit j = if j < k then false else (2 * m + 1).testBit (j - k) := fun j => by
    have := Nat.testBit_two_pow_mul_add (2 * m + 1) (b := 0) (i := k) hpos j
    rw [Nat.add_zero, ← hm] at this
    rw [this, Nat.zero_testBit]
  have y2 : ∀ j, (y - 1).testBit j = if j < k then true else (2 * m).testBit (j - k) := fun j => by
    have e : y - 1 = 2 ^ k * (2 * m) + (2 ^ k - 1) := by
      rw [hm, Nat.mul_add, Nat.mul_one]; omega
    have := Nat.testBit_two_pow_mul_add (2 * m) (b := 2 ^ k - 1) (i := k) (by omega) j
    rw [← e] at this
    rw [this, Nat.testBit_two_pow_sub_one]
    by_cases hj : j < k <;> simp [hj]
  refine filter_cut (p := fun j => y.testBit j) (q := fun j => (y &&& (y - 1)).testBit j) ?_ ?_ ?_ 64 hk
  · show y.testBit k = true
    rw [y1, if_neg (by omega), Nat.sub_self, Nat.testBit_zero]
    simp
  · intro j hj
    show y.testBit j = false
    rw [y1, if_pos hj]
  · intro j
    show (y &&& (y - 1)).testBit j = (decide (k < j) && y.testBit j)
    rw [Nat.testBit_and, y1, y2]
    by_cases h1 : j < k
    · simp [h1]
    · by_cases h2 : k < j
      · obtain ⟨i, hi⟩ : ∃ i, j - k = i + 1 := ⟨j - k - 1, by omega⟩
        rw [if_neg h1, if_neg h1, hi, Nat.testBit_succ, Nat.testBit_succ, show (2 * m + 1) / 2 = m by omega, show 2 * m / 2 = m by omega]
        simp [h2]
      · have : j - k = 0 := by omega
        rw [if_neg h1, if_neg h1, this, Nat.testBit_zero, Nat.testBit_zero]
        simp [h2]
theorem bits_0 : bitsW 0 = [] := by
  unfold bitsW
  exact List.filter_eq_nil_iff.2 fun j hj => by simp
theorem and_le {y : Nat} (hy : okW y) : okW (y &&& (y - 1)) := Nat.lt_of_le_of_lt Nat.and_le_left hy
theorem and_u64 {y : Nat} (h0 : y ≠ 0) (hy : okW y) : bitsOp .and .u64 (y : Nat) ((y - 1 : Nat) : Int) = ((y &&& (y - 1) : Nat) : Int) := by
  have h1 : (BitVec.ofInt 64 (y : Nat)).toNat = y := by
    rw [BitVec.ofInt_natCast, BitVec.toNat_ofNat]; exact Nat.mod_eq_of_lt hy
  have h2 : (BitVec.ofInt 64 ((y - 1 : Nat) : Int)).toNat = y - 1 := by
    rw [BitVec.ofInt_natCast, BitVec.toNat_ofNat]; exact Nat.mod_eq_of_lt (by have : y < 2 ^ 64 := hy; omega)
  show IntKind.u64.wrap ((BitVec.ofInt 64 (y : Nat) &&& BitVec.ofInt 64 ((y - 1 : Nat) : Int)).toNat : Int) = _
  rw [BitVec.toNat_and, h1, h2, IntKind.wrap_u64]
  have := and_le hy
  unfold okW at this
  omega
instance tz_pc (x : Nat) : PCon T0 n.math_bits_TrailingZeros64 [eW x] false (okW x) (eN (ctz 64 x)) := ⟨fun hn xs H hx _ => by
  obtain ⟨y, rfl, h⟩ := mapM1 hx
  rw [deep_int (j := 7) h]
  refine rowX (g := gTz) rfl ?_
  simp only [gTz]
  have hn' : x < 18446744073709551616 := hn
  rw [if_pos ⟨by omega, by omega⟩, Int.toNat_natCast]⟩
instance word_First (x : Nat) : PCon T0 n.word_First [eW x] true (okW x) (eN (ctz 64 x)) := ⟨fun hn => by
  refine pc tabOk ?_
  repeat' first | (apply s'2; (focus exact w'2); all_goals intro _; all_goals try first | contradiction | (exfalso; omega) | exact absurd trivial ‹_›) | (apply s'1; (focus exact w'1); intro _) | (apply s'0; focus exact w'0) | fail
  exact fz rfl⟩
end Go.AM

set_option linter.unusedVariables false
set_option linter.unusedSimpArgs false
namespace Go.AM
open Go.Lib
attribute [-simp] List.length_flatten List.map_flatten List.map_take List.map_map List.flatten_append
/-! Rows of words. -/
@[reducible] def eR (r : List Nat) : V := .lst (r.map eW)
def okRw (r : List Nat) : Prop := r.length ≤ 1048576 ∧ ∀ w ∈ r, okW w
def hasR (r : List Nat) (i : Nat) : Bool := (nth r (i / 64)).testBit (i % 64)
/-- The bits of a row, in order. -/
def rowL (r : List Nat) : List Nat := (List.range (64 * r.length)).filter (hasR r)
def rwP (r : List Nat) (i : Nat) : List Nat := (List.range i).filter (hasR r)
theorem rwP_step (r : List Nat) (i : Nat) : rwP r (i + 1) = rwP r i ++ if hasR r i = true then [i] else [] := by
  unfold rwP
  rw [List.range_succ, List.filter_append]
  congr 1
  by_cases h : hasR r i = true <;> simp [h]
theorem rwP_word (r : List Nat) (i : Nat) : rwP r (64 * (i + 1)) = rwP r (64 * i) ++ (bitsW (nth r i)).map (64 * i + ·) := by
  unfold rwP bitsW
  rw [show 64 * (i + 1) = 64 * i + 64 by omega, List.range_add, List.filter_append, List.filter_map]
  congr 2
  apply List.filter_congr
  intro j hj
  have hj' := List.mem_range.1 hj
  show hasR r (64 * i + j) = _
  unfold hasR
  rw [show (64 * i + j) / 64 = i by omega, show (64 * i + j) % 64 = j by omega]
theorem rwP_len (r : List Nat) (i : Nat) : (rwP r i).length ≤ i := by
  have := List.length_filter_le (hasR r) (List.range i)
  rwa [List.length_range] at this
theorem bitsW_len (x : Nat) : (bitsW x).length ≤ 64 := by
  have := List.length_filter_le (fun i => x.testBit i) (List.range 64)
  rwa [List.length_range] at this
instance ref01_Bit (i : Nat) : PCon T0 n.ref01_Bit [eN i] false (i ≤ 63) (eW (2 ^ i)) := ⟨fun hi => by
  refine pc tabOk ?_
  repeat' first | (apply s'2; (focus exact w'2); all_goals intro _; all_goals try first | contradiction | (exfalso; omega) | exact absurd trivial ‹_›) | (apply s'1; (focus exact w'1); intro _) | (apply s'0; focus exact w'0) | fail
  refine wh_loop (fun j A L => j ≤ i ∧ A = [(0, eN j), (3, eW (2 ^ (i - j)))] ∧ L = []) i ⟨Nat.le_refl _, by rw [Nat.sub_self]; rfl, rfl⟩ ?_
  rintro j A L ⟨hj, rfl, rfl⟩
  have hp : 2 ^ (i - j) ≤ 2 ^ 63 := Nat.pow_le_pow_right (by decide) (by omega)
  by_cases h0 : j = 0
  · subst h0
    repeat' first | (apply s'2; (focus exact w'2); all_goals intro _; all_goals try first | contradiction | (exfalso; omega) | exact absurd trivial ‹_›) | (apply s'1; (focus exact w'1); intro _) | (apply s'0; focus exact w'0) | fail
    exact fz rfl
  · obtain ⟨j', rfl⟩ : ∃ j', j = j' + 1 := ⟨j - 1, by omega⟩
    have e1 : i - j' = (i - (j' + 1)) + 1 := by omega
    have hp2 : 2 ^ (i - j') ≤ 2 ^ 63 := Nat.pow_le_pow_right (by decide) (by omega)
    have hw : WR .u64 (((2 ^ (i - (j' + 1)) : Nat) : Int) * 2) ((2 ^ (i - j') : Nat) : Int) := ⟨by
      have e2 : 2 ^ (i - j') = 2 ^ (i - (j' + 1)) * 2 := by rw [e1, Nat.pow_succ]
      rw [e2] at hp2 ⊢
      rw [IntKind.wrap_u64]
      have : (2 : Nat) ^ 63 = 9223372036854775808 := by decide
      omega⟩
    generalize 2 ^ (i - (j' + 1)) = p at hw
    generalize hq : 2 ^ (i - j') = q at hw
    repeat' first | (apply s'2; (focus exact w'2); all_goals intro _; all_goals try first | contradiction | (exfalso; omega) | exact absurd trivial ‹_›) | (apply s'1; (focus exact w'1); intro _) | (apply s'0; focus exact w'0) | fail
    refine ⟨j', _, by omega, .of (List.nil_sublist _), by omega, ?_, rfl⟩
    rw [show ((j' + 1 : Nat) : Int) - 1 = (j' : Nat) by omega, hq]⟩
theorem has_bit (w i : Nat) : (!decide (((2 ^ i : Nat) : Int) = 0) && decide ((((w / 2 ^ i % 2 : Nat)) : Int) = 1)) = w.testBit i := by
  have hp : 0 < 2 ^ i := Nat.two_pow_pos i
  rw [Nat.testBit_eq_decide_div_mod_eq]
  have h1 : decide (((2 ^ i : Nat) : Int) = 0) = false := decide_eq_false (by omega)
  rw [h1]
  simp only [Bool.not_false, Bool.true_and]
  congr 1
  apply propext
  omega
instance ref01_Has (w i : Nat) : PCon T0 n.ref01_Has [eW w, eN i] false (okW w ∧ i ≤ 63) (.bool (w.testBit i)) := ⟨fun ⟨hw, hi⟩ => by
  have hp : 0 < 2 ^ i := Nat.two_pow_pos i
  have hb := has_bit w i
  have c1 : PCon T0 n.ref01_Bit [eN i] false True (eW (2 ^ i)) := ⟨fun _ => (ref01_Bit i).con hi⟩
  generalize 2 ^ i = p at c1 hp hb
  have hdl : w / p ≤ w := Nat.div_le_self _ _
  have hw' : w < 18446744073709551616 := hw
  refine pc tabOk ?_
  repeat' first | (apply s'2; (focus exact w'2); all_goals intro _; all_goals try first | contradiction | (exfalso; omega) | exact absurd trivial ‹_›) | (apply s'1; (focus exact w'1); intro _) | (apply s'0; focus exact w'0) | fail
  refine re (AR.mk (ev_cons (ev_and (ev_ne (by exact xx) ev_c) (fun _ => ev_eq (bin_of (v := .int .u64 ((w / p % 2 : Nat) : Int)) rfl (bin_of (v := .int .u64 ((w / p : Nat) : Int)) rfl (by exact xx) (by exact xx) ?_) ev_c ?_) ev_c)) ev_nil) (by exact xx) (by exact xx)) ?_
  · simp only [binI]
    rw [if_neg (by omega)]
    have e1 : ((w : Int).tdiv p) = ((w / p : Nat) : Int) := Int.ofNat_tdiv ..
    rw [e1, IntKind.wrap_u64]
    generalize w / p = d at hdl ⊢
    rw [show ((d : Nat) : Int) % 18446744073709551616 = (d : Nat) by omega]
  · simp only [binI]
    rw [if_neg (by decide)]
    rfl
  · repeat' first | (apply s'2; (focus exact w'2); all_goals intro _; all_goals try first | contradiction | (exfalso; omega) | exact absurd trivial ‹_›) | (apply s'1; (focus exact w'1); intro _) | (apply s'0; focus exact w'0) | fail
    refine fz ?_
    rw [hb]⟩
instance ref02_Has (r : List Nat) (i : Nat) : PCon T0 n.ref02_Has [eR r, eN i] false (okRw r ∧ i < 64 * r.length) (.bool (hasR r i)) := ⟨fun ⟨hr, hi⟩ => by
  have hl := hr.1
  have h1 : i / 64 < r.length := by omega
  have hw : okW (nth r (i / 64)) := hr.2 _ (by rw [nth_eq h1]; exact List.getElem_mem h1)
  have e1 : ((i : Nat) : Int).tdiv 64 = ((i / 64 : Nat) : Int) := Int.ofNat_tdiv i 64
  have e2 : ((i : Nat) : Int).tmod 64 = ((i % 64 : Nat) : Int) := Int.ofNat_tmod i 64
  have hq : WR .i64 (((i : Nat) : Int).tdiv 64) ((i / 64 : Nat) : Int) := ⟨by rw [e1]; exact w64 (by omega)⟩
  have c1 : PCon T0 n.ref01_Has [eW (nth r (i / 64)), .int .i64 (((i : Nat) : Int).tmod 64)] false True (.bool (hasR r i)) := ⟨fun _ => by
    rw [e2]
    exact (ref01_Has (nth r (i / 64)) (i % 64)).con ⟨hw, by omega⟩⟩
  have hge : decide ((0 : Int) ≤ (i : Nat)) = true := decide_eq_true (by omega)
  have hlt : decide (((i : Nat) : Int) < 64 * (r.length : Nat)) = true := decide_eq_true (by omega)
  refine pc tabOk ?_
  repeat' first | (apply s'2; (focus exact w'2); all_goals intro _; all_goals try first | contradiction | (exfalso; omega) | exact absurd trivial ‹_›) | (apply s'1; (focus exact w'1); intro _) | (apply s'0; focus exact w'0) | fail
  refine fz ?_
  simp
  intro _
  omega⟩
end Go.AM

set_option linter.unusedVariables false
set_option linter.unusedSimpArgs false
namespace Go.AM
open Go.Lib
attribute [-simp] List.length_flatten List.map_flatten List.map_take List.map_map List.flatten_append
@[reducible] def eNs (l : List Nat) : V := .lst (l.map eN)
set_option maxHeartbeats 2000000 in
instance ref02_List (r : List Nat) : PCon T0 n.ref02_List [eR r] true (okRw r) (eNs (rowL r)) := ⟨fun hr => by
  have hl := hr.1
  refine pc tabOk ?_
  refine wn 1 true ?_
  repeat' first | (apply s'2; (focus exact w'2); all_goals intro _; all_goals try first | contradiction | (exfalso; omega) | exact absurd trivial ‹_›) | (apply s'1; (focus exact w'1); intro _) | (apply s'0; focus exact w'0) | fail
  refine wh_count (64 * r.length) (fun i A L => ∃ g, A = [(0, eR r), (3, Hd.v g), (4, eN i)] ∧ L = [.own g 1 true ((rwP r i).map eN)]) ⟨_, rfl, rfl⟩ ?_
  rintro i A L hi ⟨g, rfl, rfl⟩
  have hpl := rwP_len r i
  by_cases hlt : i < 64 * r.length
  · have c1 : PCon T0 n.ref02_Has [eR r, eN i] false True (.bool (hasR r i)) := ⟨fun _ => (ref02_Has r i).con ⟨hr, hlt⟩⟩
    have hst := rwP_step r i
    repeat' first | (apply s'2; (focus exact w'2); all_goals intro _; all_goals try first | contradiction | (exfalso; omega) | exact absurd trivial ‹_›) | (apply s'1; (focus exact w'1); intro _) | (apply s'0; focus exact w'0) | fail
    · rename_i hb _ _
      refine fr_next (by omega) (List.sublist_cons_self _ _) ⟨_, rfl, ?_⟩
      rw [hst, if_pos hb]
      simp
    · rename_i hb
      refine fr_next (by omega) sbc ⟨_, rfl, ?_⟩
      rw [hst, if_neg hb, List.append_nil]
  · repeat' first | (apply s'2; (focus exact w'2); all_goals intro _; all_goals try first | contradiction | (exfalso; omega) | exact absurd trivial ‹_›) | (apply s'1; (focus exact w'1); intro _) | (apply s'0; focus exact w'0) | fail
    refine fz ?_
    rw [show i = 64 * r.length by omega]
    rfl⟩
set_option maxHeartbeats 4000000 in
instance row_List (r : List Nat) : PCon T0 n.row_List [eR r] true (okRw r) (eNs (rowL r)) := ⟨fun hr => by
  have hl := hr.1
  refine pc tabOk ?_
  refine wn 1 true ?_
  repeat' first | (apply s'2; (focus exact w'2); all_goals intro _; all_goals try first | contradiction | (exfalso; omega) | exact absurd trivial ‹_›) | (apply s'1; (focus exact w'1); intro _) | (apply s'0; focus exact w'0) | fail
  refine wh_count r.length (fun i A L => ∃ g, A = [(3, Hd.v g), (6, eR r), (7, eN r.length), (8, eN i)] ∧ L = [.own g 1 true ((rwP r (64 * i)).map eN)]) ⟨_, rfl, rfl⟩ ?_
  rintro i A L hi ⟨g, rfl, rfl⟩
  have hpl := rwP_len r (64 * i)
  by_cases hlt : i < r.length
  · have hst := rwP_word r i
    have hw : okW (nth r i) := hr.2 _ (by rw [nth_eq hlt]; exact List.getElem_mem hlt)
    repeat' first | (apply s'2; (focus exact w'2); all_goals intro _; all_goals try first | contradiction | (exfalso; omega) | exact absurd trivial ‹_›) | (apply s'1; (focus exact w'1); intro _) | (apply s'0; focus exact w'0) | fail
    refine wh_loop (fun m A L => ∃ (y : Nat) (taken : List Nat) (g : Hd), m = (bitsW y).length ∧ okW y ∧ bitsW (nth r i) = taken ++ bitsW y ∧ A = [(3, Hd.v g), (4, eN i), (5, eW y), (6, eR r), (7, eN r.length), (8, eN i)] ∧ L = [.own g 1 true ((rwP r (64 * i) ++ taken.map (64 * i + ·)).map eN)]) _ ⟨nth r i, [], _, rfl, hw, rfl, rfl, by rw [List.map_nil, List.append_nil]⟩ ?_
    rintro m A L ⟨y, taken, g, rfl, hy, ht, rfl, rfl⟩
    have htl := bitsW_len (nth r i)
    rw [ht, List.length_append] at htl
    have hll : (rwP r (64 * i) ++ taken.map (64 * i + ·)).length ≤ 64 * i + 64 := by rw [List.length_append, List.length_map]; omega
    by_cases h0 : y = 0
    · subst h0
      rw [bits_0, List.append_nil] at ht
      repeat' first | (apply s'2; (focus exact w'2); all_goals intro _; all_goals try first | contradiction | (exfalso; omega) | exact absurd trivial ‹_›) | (apply s'1; (focus exact w'1); intro _) | (apply s'0; focus exact w'0) | fail
      refine fr_next (by omega) sbc ⟨_, rfl, ?_⟩
      rw [hst, ht]
    · obtain ⟨k1, k2⟩ := bits_step h0 hy
      have c1 : PCon T0 n.word_First [eW y] true True (eN (ctz 64 y)) := ⟨fun _ => (word_First y).con hy⟩
      generalize ctz 64 y = c at c1 k1 k2
      have hs1 : WR .u64 ((y : Nat) - 1 : Int) ((y - 1 : Nat) : Int) := ⟨by
        have hy' : y < 18446744073709551616 := hy
        rw [IntKind.wrap_u64]; omega⟩
      have ha := and_u64 h0 hy
      repeat' first | (apply s'2; (focus exact w'2); all_goals intro _; all_goals try first | contradiction | (exfalso; omega) | exact absurd trivial ‹_›) | (apply s'1; (focus exact w'1); intro _) | (apply s'0; focus exact w'0) | fail
      refine ⟨_, _, ?_, .of (List.sublist_cons_self _ _), y &&& (y - 1), taken ++ [c], _, rfl, and_le hy, ?_, by rw [ha], ?_⟩
      · rw [k2, List.length_cons]; omega
      · rw [ht, k2, List.append_assoc]; rfl
      · rw [show i * 64 + c = 64 * i + c by omega]
        simp
  · repeat' first | (apply s'2; (focus exact w'2); all_goals intro _; all_goals try first | contradiction | (exfalso; omega) | exact absurd trivial ‹_›) | (apply s'1; (focus exact w'1); intro _) | (apply s'0; focus exact w'0) | fail
    refine fz ?_
    rw [show i = r.length by omega]
    rfl⟩
end Go.AM

set_option linter.unusedVariables false
set_option linter.unusedSimpArgs false
namespace Go.AM
open Go.Lib
attribute [-simp] List.length_flatten List.map_flatten List.map_take List.map_map List.flatten_append
/-! Matrices. -/
@[reducible] def eMat (k : Nat) (rows : List (List Nat)) : V := .agg [eN k, .lst (rows.map eR)]
@[reducible] def eP (p : Nat × Nat) : V := .agg [eN p.1, eN p.2]
def okM (rows : List (List Nat)) : Prop := rows.length ≤ 4096 ∧ ∀ r ∈ rows, okRw r ∧ r.length ≤ 64
/-- The pairs, in order. -/
def prM (rows : List (List Nat)) : List (Nat × Nat) := (List.range rows.length).flatMap fun i => (rowL (nth rows i)).map fun j => (i, j)
def prP (rows : List (List Nat)) (i : Nat) : List (Nat × Nat) := (List.range i).flatMap fun i => (rowL (nth rows i)).map fun j => (i, j)
theorem prP_step (rows : List (List Nat)) (i : Nat) : prP rows (i + 1) = prP rows i ++ (rowL (nth rows i)).map fun j => (i, j) := by
  unfold prP
  rw [List.range_succ, List.flatMap_append]
  simp
theorem rowL_len (r : List Nat) : (rowL r).length ≤ 64 * r.length := rwP_len r (64 * r.length)
theorem prP_len {rows : List (List Nat)} (ok : okM rows) : ∀ i, i ≤ rows.length → (prP rows i).length ≤ 4096 * i
  | 0, _ => by simp [prP]
  | i + 1, h => by
    have := prP_len ok i (by omega)
    have h1 := rowL_len (nth rows i)
    have h2 := (ok.2 (nth rows i) (by rw [nth_eq (by omega)]; exact List.getElem_mem (by omega))).2
    rw [prP_step, List.length_append, List.length_map]
    omega
instance : Inhabited (List Nat) := ⟨[]⟩
set_option maxHeartbeats 4000000 in
instance mat_Pairs (k : Nat) (rows : List (List Nat)) : PCon T0 n.mat_Pairs [eMat k rows] true (okM rows) (.lst ((prM rows).map eP)) := ⟨fun ok => by
  have hl := ok.1
  refine pc tabOk ?_
  refine wn 2 true ?_
  repeat' first | (apply s'2; (focus exact w'2); all_goals intro _; all_goals try first | contradiction | (exfalso; omega) | exact absurd trivial ‹_›) | (apply s'1; (focus exact w'1); intro _) | (apply s'0; focus exact w'0) | fail
  refine wh_sub (L' := [.own .nil 2 true []]) ?_ (List.sublist_cons_self _ _)
  refine wh_count rows.length (fun i A L => ∃ g, A = [(3, Hd.v g), (9, .lst (rows.map eR)), (10, eN rows.length), (11, eN i)] ∧ L = [.own g 2 true ((prP rows i).map eP)]) ⟨_, rfl, rfl⟩ ?_
  rintro i A L hi ⟨g, rfl, rfl⟩
  have hpl := prP_len ok i hi
  by_cases hlt : i < rows.length
  · have hrow := ok.2 (nth rows i) (by rw [nth_eq hlt]; exact List.getElem_mem hlt)
    have hst := prP_step rows i
    have hrl := rowL_len (nth rows i)
    have c1 : PCon T0 n.row_List [eR (nth rows i)] true True (eNs (rowL (nth rows i))) := ⟨fun _ => (row_List (nth rows i)).con hrow.1⟩
    generalize rowL (nth rows i) = l at c1 hst hrl
    repeat' first | (apply s'2; (focus exact w'2); all_goals intro _; all_goals try first | contradiction | (exfalso; omega) | exact absurd trivial ‹_›) | (apply s'1; (focus exact w'1); intro _) | (apply s'0; focus exact w'0) | fail
    refine wh_count l.length (fun j A L => ∃ g, A = [(3, Hd.v g), (4, eN i), (9, .lst (rows.map eR)), (10, eN rows.length), (11, eN i), (17, eNs l), (18, eN l.length), (19, eN j)] ∧ L = [.own g 2 true ((prP rows i ++ (l.take j).map fun j => (i, j)).map eP)]) ⟨_, rfl, by rw [List.take_zero, List.map_nil, List.append_nil]⟩ ?_
    rintro j A L hj ⟨g, rfl, rfl⟩
    have hjl : (prP rows i ++ (l.take j).map fun j => (i, j)).length ≤ 4096 * i + 4096 := by
      rw [List.length_append, List.length_map, List.length_take]; omega
    have hr2 := hrow.2
    have htk : (l.take j).length = j := by rw [List.length_take]; omega
    by_cases hlj : j < l.length
    · repeat' first | (apply s'2; (focus exact w'2); all_goals intro _; all_goals try first | contradiction | (exfalso; omega) | exact absurd trivial ‹_›) | (apply s'1; (focus exact w'1); intro _) | (apply s'0; focus exact w'0) | fail
      refine fr_next (by omega) (List.sublist_cons_self _ _) ⟨_, rfl, ?_⟩
      rw [take_nth hlj]
      simp
    · repeat' first | (apply s'2; (focus exact w'2); all_goals intro _; all_goals try first | contradiction | (exfalso; omega) | exact absurd trivial ‹_›) | (apply s'1; (focus exact w'1); intro _) | (apply s'0; focus exact w'0) | fail
      refine fr_next (by omega) sbc ⟨_, rfl, ?_⟩
      rw [hst, show j = l.length by omega, List.take_length]
  · repeat' first | (apply s'2; (focus exact w'2); all_goals intro _; all_goals try first | contradiction | (exfalso; omega) | exact absurd trivial ‹_›) | (apply s'1; (focus exact w'1); intro _) | (apply s'0; focus exact w'0) | fail
    refine fz ?_
    rw [show i = rows.length by omega]
    rfl⟩
end Go.AM

set_option linter.unusedVariables false
set_option linter.unusedSimpArgs false
namespace Go.AM
open Go.Lib
attribute [-simp] List.length_flatten List.map_flatten List.map_take List.map_map List.flatten_append
set_option maxHeartbeats 4000000 in
instance ref03_Pairs (rows : List (List Nat)) : PCon T0 n.ref03_Pairs [eMat rows.length rows] true (okM rows) (.lst ((prM rows).map eP)) := ⟨fun ok => by
  have hl := ok.1
  refine pc tabOk ?_
  refine wn 2 true ?_
  repeat' first | (apply s'2; (focus exact w'2); all_goals intro _; all_goals try first | contradiction | (exfalso; omega) | exact absurd trivial ‹_›) | (apply s'1; (focus exact w'1); intro _) | (apply s'0; focus exact w'0) | fail
  rename_i id
  refine wh_count rows.length (fun i A L => ∃ g, A = [(1, .ptr id 2 0 0), (3, Hd.v g), (4, eN i)] ∧ L = [.ob id (.row 2 false [eMat rows.length rows]), .own g 2 true ((prP rows i).map eP)]) ⟨_, rfl, rfl⟩ ?_
  rintro i A L hi ⟨g, rfl, rfl⟩
  have hpl := prP_len ok i hi
  by_cases hlt : i < rows.length
  · have hrow := ok.2 (nth rows i) (by rw [nth_eq hlt]; exact List.getElem_mem hlt)
    have hst := prP_step rows i
    have hrl := rowL_len (nth rows i)
    have c1 : PCon T0 n.ref02_List [eR (nth rows i)] true True (eNs (rowL (nth rows i))) := ⟨fun _ => (ref02_List (nth rows i)).con hrow.1⟩
    generalize rowL (nth rows i) = l at c1 hst hrl
    repeat' first | (apply s'2; (focus exact w'2); all_goals intro _; all_goals try first | contradiction | (exfalso; omega) | exact absurd trivial ‹_›) | (apply s'1; (focus exact w'1); intro _) | (apply s'0; focus exact w'0) | fail
    refine wh_count l.length (fun j A L => ∃ g, A = [(1, .ptr id 2 0 0), (3, Hd.v g), (4, eN i), (5, eNs l), (6, eN j)] ∧ L = [.ob id (.row 2 false [eMat rows.length rows]), .own g 2 true ((prP rows i ++ (l.take j).map fun j => (i, j)).map eP)]) ⟨_, rfl, by rw [List.take_zero, List.map_nil, List.append_nil]⟩ ?_
    rintro j A L hj ⟨g, rfl, rfl⟩
    have hr2 := hrow.2
    have htk : (l.take j).length = j := by rw [List.length_take]; omega
    by_cases hlj : j < l.length
    · repeat' first | (apply s'2; (focus exact w'2); all_goals intro _; all_goals try first | contradiction | (exfalso; omega) | exact absurd trivial ‹_›) | (apply s'1; (focus exact w'1); intro _) | (apply s'0; focus exact w'0) | fail
      refine fr_next (by omega) (List.sublist_cons_self _ _) ⟨_, rfl, ?_⟩
      rw [take_nth hlj]
      simp
    · repeat' first | (apply s'2; (focus exact w'2); all_goals intro _; all_goals try first | contradiction | (exfalso; omega) | exact absurd trivial ‹_›) | (apply s'1; (focus exact w'1); intro _) | (apply s'0; focus exact w'0) | fail
      refine fr_next (by omega) sbc ⟨_, rfl, ?_⟩
      rw [hst, show j = l.length by omega, List.take_length]
  · repeat' first | (apply s'2; (focus exact w'2); all_goals intro _; all_goals try first | contradiction | (exfalso; omega) | exact absurd trivial ‹_›) | (apply s'1; (focus exact w'1); intro _) | (apply s'0; focus exact w'0) | fail
    refine fz ?_
    rw [show i = rows.length by omega]
    rfl⟩
/-! Small ones. -/
def smM (rows : List (List Nat)) (m : Nat) : Bool := decide (rows.length ≤ m) && rows.all fun r => decide (r.length ≤ 4)
theorem all_st {α : Type} [Inhabited α] {p : α → Bool} {l : List α} {i : Nat} (hi : i < l.length) : (l.take (i + 1)).all p = ((l.take i).all p && p (nth l i)) := by
  rw [take_nth hi, List.all_append]
  simp
theorem all_no {α : Type} [Inhabited α] {p : α → Bool} {l : List α} {i : Nat} (hi : i < l.length) (h : p (nth l i) = false) : l.all p = false := by
  cases ha : l.all p with
  | false => rfl
  | true =>
    rw [List.all_eq_true] at ha
    rw [nth_eq hi, ha _ (List.getElem_mem hi)] at h
    cases h
instance ref03_Small (k : Int) (rows : List (List Nat)) (m : Nat) : PCon T0 n.ref03_Small [.agg [.int .i64 k, .lst (rows.map eR)], eN m] false (rows.length ≤ 1048576) (.bool (smM rows m)) := ⟨fun hl => by
  refine pc tabOk ?_
  repeat' first | (apply s'2; (focus exact w'2); all_goals intro _; all_goals try first | contradiction | (exfalso; omega) | exact absurd trivial ‹_›) | (apply s'1; (focus exact w'1); intro _) | (apply s'0; focus exact w'0) | fail
  · refine fz ?_
    rw [smM, decide_eq_false (by omega)]
    rfl
  rename_i id hm
  have hd : decide (rows.length ≤ m) = true := decide_eq_true (by omega)
  refine wh_count rows.length (fun i A L => A = [(2, .ptr id 2 0 0), (5, eN i)] ∧ L = [.ob id (.row 2 false [.agg [.int .i64 k, .lst (rows.map eR)]])] ∧ (rows.take i).all (fun r => decide (r.length ≤ 4)) = true) ⟨rfl, rfl, rfl⟩ ?_
  rintro i A L hi ⟨rfl, rfl, ha⟩
  by_cases hlt : i < rows.length
  · repeat' first | (apply s'2; (focus exact w'2); all_goals intro _; all_goals try first | contradiction | (exfalso; omega) | exact absurd trivial ‹_›) | (apply s'1; (focus exact w'1); intro _) | (apply s'0; focus exact w'0) | fail
    · rename_i h4
      refine fz ?_
      rw [smM, all_no hlt (decide_eq_false (by omega)), Bool.and_false]
    · rename_i h4
      refine fr_next (by omega) sbc ⟨rfl, rfl, ?_⟩
      rw [all_st hlt, ha, decide_eq_true (by omega)]
      rfl
  · repeat' first | (apply s'2; (focus exact w'2); all_goals intro _; all_goals try first | contradiction | (exfalso; omega) | exact absurd trivial ‹_›) | (apply s'1; (focus exact w'1); intro _) | (apply s'0; focus exact w'0) | fail
    refine fz ?_
    rw [smM, hd]
    rw [show i = rows.length by omega, List.take_length] at ha
    rw [ha]
    rfl⟩
end Go.AM

set_option linter.unusedVariables false
set_option linter.unusedSimpArgs false
namespace Go.AM
open Go.Lib
attribute [-simp] List.length_flatten List.map_flatten List.map_take List.map_map List.flatten_append
@[reducible] def eIs (l : List Int) : V := .lst (l.map (V.int .i64))
/-- A certificate. -/
structure Crt where
  (l n : Int) (rows : List (List Nat)) (arb : List Int) (seqs : List (List Int))
@[reducible] def eCrt (c : Crt) : V := .agg [.int .i64 c.l, .int .i64 c.n, .lst (c.rows.map eR), eIs c.arb, .lst (c.seqs.map eIs)]
def smC (c : Crt) : Bool := smM c.rows 16 && decide (c.arb.length ≤ 32) && decide (c.seqs.length ≤ 32) && c.seqs.all fun s => decide (s.length ≤ 32)
set_option maxHeartbeats 2000000 in
instance ref24_Small (c : Crt) : PCon T0 n.ref24_Small [eCrt c, .int .i64 16] false (c.rows.length ≤ 1048576 ∧ c.arb.length ≤ 1048576 ∧ c.seqs.length ≤ 1048576) (.bool (smC c)) := ⟨fun ⟨h1, h2, h3⟩ => by
  cases hm : smM c.rows 16 with
  | false =>
    have c1 : PCon T0 n.ref03_Small [.agg [.int .i64 c.n, .lst (c.rows.map eR)], .int .i64 16] false True (.bool false) := ⟨fun _ => by
      have := (ref03_Small c.n c.rows 16).con h1
      rwa [hm] at this⟩
    refine pc tabOk ?_
    repeat' first | (apply s'2; (focus exact w'2); all_goals intro _; all_goals try first | contradiction | (exfalso; omega) | exact absurd trivial ‹_›) | (apply s'1; (focus exact w'1); intro _) | (apply s'0; focus exact w'0) | fail
    · refine fz ?_
      rw [smC, hm]
      rfl
    · rename_i h
      exact absurd (.inl (.inl (fun h => h))) h
  | true =>
    have c1 : PCon T0 n.ref03_Small [.agg [.int .i64 c.n, .lst (c.rows.map eR)], .int .i64 16] false True (.bool true) := ⟨fun _ => by
      have := (ref03_Small c.n c.rows 16).con h1
      rwa [hm] at this⟩
    refine pc tabOk ?_
    repeat' first | (apply s'2; (focus exact w'2); all_goals intro _; all_goals try first | contradiction | (exfalso; omega) | exact absurd trivial ‹_›) | (apply s'1; (focus exact w'1); intro _) | (apply s'0; focus exact w'0) | fail
    · rename_i h
      refine fz ?_
      rw [smC]
      by_cases ha : c.arb.length ≤ 32
      · have hs : ¬ c.seqs.length ≤ 32 := fun hs => by
          rcases h with (h | h) | h
          · exact h trivial
          · omega
          · omega
        simp [hs]
      · simp [ha]
    rename_i id h
    have ha : decide (c.arb.length ≤ 32) = true := decide_eq_true (by
      have := fun hh => h (.inl (.inr hh))
      omega)
    have hs : decide (c.seqs.length ≤ 32) = true := decide_eq_true (by
      have := fun hh => h (.inr hh)
      omega)
    refine wh_count c.seqs.length (fun i A L => A = [(1, .int .i64 16), (2, .ptr id 5 0 0), (5, eN i)] ∧ L = [.ob id (.row 5 false [eCrt c])] ∧ (c.seqs.take i).all (fun s => decide (s.length ≤ 32)) = true) ⟨rfl, rfl, rfl⟩ ?_
    rintro i A L hi ⟨rfl, rfl, hl⟩
    by_cases hlt : i < c.seqs.length
    · repeat' first | (apply s'2; (focus exact w'2); all_goals intro _; all_goals try first | contradiction | (exfalso; omega) | exact absurd trivial ‹_›) | (apply s'1; (focus exact w'1); intro _) | (apply s'0; focus exact w'0) | fail
      · rename_i h4
        refine fz ?_
        rw [smC, all_no hlt (decide_eq_false (by omega)), Bool.and_false]
      · rename_i h4
        refine fr_next (by omega) sbc ⟨rfl, rfl, ?_⟩
        rw [all_st hlt, hl, decide_eq_true (by omega)]
        rfl
    · repeat' first | (apply s'2; (focus exact w'2); all_goals intro _; all_goals try first | contradiction | (exfalso; omega) | exact absurd trivial ‹_›) | (apply s'1; (focus exact w'1); intro _) | (apply s'0; focus exact w'0) | fail
      refine fz ?_
      rw [smC, hm, ha, hs]
      rw [show i = c.seqs.length by omega, List.take_length] at hl
      rw [hl]
      rfl⟩
end Go.AM

