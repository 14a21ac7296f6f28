/- Part ZA of the proof. -/
import Derived.Test.YthhgiappgpeloaaDoorTA
import Derived.Test.YthhgiappgpeloaaDoorA3
import Derived.Lib.ItoaMem
set_option linter.unusedVariables false
set_option linter.unusedSimpArgs false
namespace Go.AM
attribute [-simp] List.length_flatten List.map_flatten List.map_take List.map_map List.flatten_append
structure Op where
  w : Bool
  v : List UInt8
  x : Int
  deriving Inhabited, DecidableEq
@[reducible] def eOp (o : Op) : V := .agg [.bool o.w, .str o.v, .int .i64 o.x]
@[reducible] def eOps (l : List Op) : V := .lst (l.map eOp)
@[reducible] def eH (h : List (List Op)) : V := .lst (h.map eOps)
/-- Histories that are not beyond all measure. -/
def hb (h : List (List Op)) : Prop := h.length ≤ 1048576 ∧ h.flatten.length ≤ 1048576
theorem vbool {a b : Bool} (h : a = true ↔ b = true) : V.bool a = V.bool b := by rw [Bool.eq_iff_iff.2 h]
theorem take_nth {α : Type} [Inhabited α] {l : List α} {i : Nat} (h : i < l.length) : l.take (i + 1) = l.take i ++ [nth l i] := by
  rw [List.take_add_one, getI h]; rfl
theorem flat_nth {α : Type} {h : List (List α)} {i : Nat} (hi : i < h.length) : (h.take (i + 1)).flatten = (h.take i).flatten ++ nth h i := by
  rw [take_nth hi]; simp only [List.flatten_append, List.flatten_cons, List.flatten_nil, List.append_nil]
theorem flat_le {α : Type} {h : List (List α)} (i : Nat) : (h.take i).flatten.length ≤ h.flatten.length := by
  have := congrArg (fun l => (List.flatten l).length) (List.take_append_drop i h)
  simp only [List.flatten_append, List.length_append] at this
  omega
theorem flat_len {α : Type} {h : List (List α)} {i : Nat} (hi : i < h.length) : (h.take i).flatten.length + (nth h i).length ≤ h.flatten.length := by
  have := flat_le (h := h) (i + 1)
  rw [flat_nth hi, List.length_append] at this
  exact this
instance ref06_Flat (h : List (List Op)) : PCon T0 n.ref06_Flat [eH h] false (hb h) (eOps h.flatten) := ⟨fun b => by
  refine pc tabOk ?_
  obtain ⟨hn, hb⟩ := b
  repeat' first | (apply s'2; (focus exact w'2); all_goals intro _; all_goals try first | contradiction | (exfalso; omega) | exact absurd trivial ‹_›) | (apply s'1; (focus exact w'1); intro _) | (apply s'0; focus exact w'0) | fail
  refine wn 3 true ?_
  refine wh_count h.length (fun i A L => ∃ g, A = [(0, eH h), (3, Hd.v g), (4, .int .i64 (i : Nat))] ∧ L = [.own g 3 true ((h.take i).flatten.map eOp)]) ⟨.nil, rfl, rfl⟩ ?_
  rintro i A L hi ⟨g, rfl, rfl⟩
  have hl := @flat_len _ h i
  repeat' first | (apply s'2; (focus exact w'2); all_goals intro _; all_goals try first | contradiction | (exfalso; omega) | exact absurd trivial ‹_›) | (apply s'1; (focus exact w'1); intro _) | (apply s'0; focus exact w'0) | fail
  · exact fr_next (by omega) sbc ⟨_, rfl, by rw [flat_nth (by omega), List.map_append]⟩
  · refine fz ?_
    rw [show i = h.length by omega, List.take_length]⟩
instance ref06_Count (h : List (List Op)) : PCon T0 n.ref06_Count [eH h] false (hb h) (.int .i64 (h.flatten.length : Nat)) := ⟨fun b => by
  refine pc tabOk ?_
  repeat' first | (apply s'2; (focus exact w'2); all_goals intro _; all_goals try first | contradiction | (exfalso; omega) | exact absurd trivial ‹_›) | (apply s'1; (focus exact w'1); intro _) | (apply s'0; focus exact w'0) | fail
  exact fz rfl⟩
def low (c : UInt8) : Bool := decide (97 ≤ c.toNat) && decide (c.toNat ≤ 122)
def nameB (s : List UInt8) : Bool := decide (1 ≤ s.length) && decide (s.length ≤ 8) && s.all low
theorem all_nth {α : Type} [Inhabited α] {p : α → Bool} {l : List α} {i : Nat} (hi : i < l.length) : (l.take (i + 1)).all p = ((l.take i).all p && p (nth l i)) := by
  rw [take_nth hi]; simp
theorem all_false {α : Type} [Inhabited α] {p : α → Bool} {l : List α} {i : Nat} (hi : i < l.length) (h : p (nth l i) = false) : l.all p = false := by
  cases ha : l.all p with
  | false => rfl
  | true => rw [nth_eq hi, List.all_eq_true.1 ha _ (List.getElem_mem hi)] at h; cases h
instance ref06_Name (s : List UInt8) : PCon T0 n.ref06_Name [.str s] false (s.length ≤ 1048576) (.bool (nameB s)) := ⟨fun b => by
  refine pc tabOk ?_
  repeat' first | (apply s'2; (focus exact w'2); all_goals intro _; all_goals try first | contradiction | (exfalso; omega) | exact absurd trivial ‹_›) | (apply s'1; (focus exact w'1); intro _) | (apply s'0; focus exact w'0) | fail
  refine wh_count s.length (fun i A L => A = [(0, .str s), (3, .int .i64 (i : Nat))] ∧ L = [] ∧ (s.take i).all low = true) ⟨rfl, rfl, by simp⟩ ?_
  rintro i A L hi ⟨rfl, rfl, ha⟩
  repeat' first | (apply s'2; (focus exact w'2); all_goals intro _; all_goals try first | contradiction | (exfalso; omega) | exact absurd trivial ‹_›) | (apply s'1; (focus exact w'1); intro _) | (apply s'0; focus exact w'0) | fail
  · refine fz ?_
    rw [nameB, all_false (l := s) (i := i) (by omega) (by simp [low]; omega)]; simp
  · exact fr_next (by omega) sbc ⟨rfl, rfl, by rw [all_nth (by omega), ha]; simp [low]; omega⟩
  · refine fz ?_
    rw [show i = s.length by omega, List.take_length] at ha
    rw [nameB, ha]; refine vbool ?_; simp; omega⟩
def smallB (h : List (List Op)) (m : Int) : Bool := decide ((h.length : Int) ≤ m) && (decide ((h.flatten.length : Int) ≤ m) && h.flatten.all (fun o => decide (o.v.length ≤ 20)))
instance ref06_Small (h : List (List Op)) (m : Int) : PCon T0 n.ref06_Small [eH h, .int .i64 m] false (hb h) (.bool (smallB h m)) := ⟨fun b => by
  refine pc tabOk ?_
  have hl := b.2
  repeat' first | (apply s'2; (focus exact w'2); all_goals intro _; all_goals try first | contradiction | (exfalso; omega) | exact absurd trivial ‹_›) | (apply s'1; (focus exact w'1); intro _) | (apply s'0; focus exact w'0) | fail
  · refine fz ?_
    simp [smallB]; omega
  generalize hf : h.flatten = l at *
  refine wh_count l.length (fun i A L => A = [(5, eOps l), (6, .int .i64 (i : Nat))] ∧ L = [] ∧ (l.take i).all (fun o => decide (o.v.length ≤ 20)) = true) ⟨rfl, rfl, by simp⟩ ?_
  rintro i A L hi ⟨rfl, rfl, ha⟩
  repeat' first | (apply s'2; (focus exact w'2); all_goals intro _; all_goals try first | contradiction | (exfalso; omega) | exact absurd trivial ‹_›) | (apply s'1; (focus exact w'1); intro _) | (apply s'0; focus exact w'0) | fail
  · refine fz ?_
    rw [smallB, hf, all_false (l := l) (i := i) (by omega) (by simp; omega)]; simp
  · exact fr_next (by omega) sbc ⟨rfl, rfl, by rw [all_nth (by omega), ha]; simp; omega⟩
  · refine fz ?_
    rw [show i = l.length by omega, List.take_length] at ha
    rw [smallB, hf, ha]; simp; omega⟩
def rightB (h : List (List Op)) : Bool := h.flatten.all (fun o => nameB o.v) && decide (h.flatten.length ≤ 4096)
instance ref06_Right (h : List (List Op)) : PCon T0 n.ref06_Right [eH h] false (hb h ∧ ∀ o ∈ h.flatten, o.v.length ≤ 1048576) (.bool (rightB h)) := ⟨fun ⟨b, bn⟩ => by
  refine pc tabOk ?_
  have hl := b.2
  repeat' first | (apply s'2; (focus exact w'2); all_goals intro _; all_goals try first | contradiction | (exfalso; omega) | exact absurd trivial ‹_›) | (apply s'1; (focus exact w'1); intro _) | (apply s'0; focus exact w'0) | fail
  unfold rightB
  generalize hf : h.flatten = l at *
  refine wh_count l.length (fun i A L => A = [(3, eOps l), (4, .int .i64 (i : Nat))] ∧ L = [] ∧ (l.take i).all (fun o => nameB o.v) = true) ⟨rfl, rfl, by simp⟩ ?_
  rintro i A L hi ⟨rfl, rfl, ha⟩
  have hn : i < l.length → (nth l i).v.length ≤ 1048576 := fun h => bn _ (by rw [nth_eq h]; exact List.getElem_mem h)
  repeat' first | (apply s'2; (focus exact w'2); all_goals intro _; all_goals try first | contradiction | (exfalso; omega) | exact absurd trivial ‹_›) | (apply s'1; (focus exact w'1); intro _) | (apply s'0; focus exact w'0) | fail
  · refine fz ?_
    rename_i h1 h2
    rw [all_false (l := l) (i := i) (by omega) (by simpa using h2)]; simp
  · rename_i h1 h2
    exact fr_next (by omega) sbc ⟨rfl, rfl, by rw [all_nth (by omega), ha]; simpa using h2⟩
  · refine fz ?_
    rw [show i = l.length by omega, List.take_length] at ha
    rw [ha]; simp; omega⟩
end Go.AM

set_option linter.unusedVariables false
set_option linter.unusedSimpArgs false
namespace Go.AM
/-! strings.Trim, with cutsets of plain letters. -/
def bitV (p : Nat → Bool) : V := .agg ((List.range 256).map fun j => .bool (p j))
def cutL (p : UInt8 → Bool) (s : List UInt8) : List UInt8 := s.dropWhile p
def cutR (p : UInt8 → Bool) (s : List UInt8) : List UInt8 := (s.reverse.dropWhile p).reverse
section
variable {p : Nat → Bool} {id : Nat} {L : List HE}
theorem set_at {j : Nat} (h : j < 256) : (bitV p).cells[j]? = some (.bool (p j)) := by
  simp [bitV, V.cells, h]
theorem bit_len : (bitV p).cells.length = 256 := by simp [bitV, V.cells]
theorem rep_range (n : Nat) (b : V) : List.replicate n b = (List.range n).map fun _ => b := by simp [List.map_const']
theorem bit_0 : V.agg (List.replicate 256 (.bool false)) = bitV (fun _ => false) := by rw [rep_range]; rfl
theorem put_set (l : List V) {c : Nat} (h : c < l.length) (x : V) : l.take c ++ [x] ++ l.drop (c + 1) = l.set c x := by
  rw [List.set_eq_take_append_cons_drop, if_pos h]; simp
theorem put_bit {c : Nat} (h : c < 256) : (bitV p).putAt (.bool true) (0 + ((c : Nat) : Int).toNat * 1) = bitV (fun j => p j || j == c) := by
  simp only [bitV, V.putAt, setCells, Nat.zero_add, Nat.mul_one, Int.toNat_natCast, V.cells, V.agg.injEq, List.length_cons, List.length_nil]
  rw [put_set _ (by simp; exact h)]
  apply List.ext_getElem
  · simp
  · intro j h1 h2
    rw [List.getElem_set]
    by_cases he : c = j
    · subst he; simp
    · have : (j == c) = false := by simp; omega
      simp [he, this]
theorem put_all : (V.agg (List.replicate 256 (.bool false))).putAt (bitV p) 0 = bitV p := by
  rw [bit_0]; simp [bitV, V.putAt, setCells, V.cells]
theorem bit_flat : (bitV p).cells.all V.flat1 = true ∧ (bitV p).cells.all V.sc = true := by
  simp [bitV, V.cells, V.flat1, V.sc]
attribute [irreducible] bitV
theorem contains_rc (hm : Mem (.ob id (.row 256 true [bitV p])) L) (c : UInt8) : RC T0 L n.strings_asciiSet__contains [.ptr id 256 0 0, .int .u8 (c.toNat : Nat)] (.bool (p c.toNat)) := by
  have hc := c.toNat_lt
  have hp : PT ⟨false, 1⟩ (bitV p).cells (0 + ((c.toNat : Nat) : Int).toNat * 1) (.bool (p c.toNat)) := ⟨by
    simp only [part, Bool.false_eq_true, if_false]
    rw [Nat.zero_add, Nat.mul_one, Int.toNat_natCast, set_at (by omega)]⟩
  refine rw' tabOk ?_
  refine wh_seq ?_
  (apply wr; focus exact xx)
  refine wh_seq ?_
  apply wr
  · apply AR.mk
    · apply ev_cons
      · apply e_lp
        · apply q_2
          · exact xx
          · exact xx
          · exact p_iar ⟨by omega⟩
        · apply d_p
          · assumption
          · exact XI.mk rfl
          · exact hp
      · exact ev_nil
    · exact xx
    · exact xx
  repeat' first | (apply s'2; (focus exact w'2); all_goals intro _; all_goals try first | contradiction | (exfalso; omega) | exact absurd trivial ‹_›) | (apply s'1; (focus exact w'1); intro _) | (apply s'0; focus exact w'0) | fail
  exact fw rfl
theorem drop_while {q : UInt8 → Bool} {t : List UInt8} (h : 0 < t.length) (hq : q (nth t 0) = true) : (t.drop 1).dropWhile q = t.dropWhile q := by
  cases t with
  | nil => cases h
  | cons c r => simp only [List.drop_succ_cons, List.drop_zero]; rw [List.dropWhile_cons_of_pos (by simpa [nth] using hq)]
theorem stop_while {q : UInt8 → Bool} {t : List UInt8} (h : t.length = 0 ∨ q (nth t 0) = false) : t.dropWhile q = t := by
  cases t with
  | nil => rfl
  | cons c r => rw [List.dropWhile_cons_of_neg (by rcases h with h | h <;> simp_all [nth])]
theorem trimL_rc (hm : Mem (.ob id (.row 256 true [bitV p])) L) (s : List UInt8) (hs : s.length ≤ 1048576) : RC T0 L n.strings_trimLeftASCII [.str s, .ptr id 256 0 0] (.str (cutL (fun c => p c.toNat) s)) := by
  refine rw' tabOk ?_
  repeat' first | (apply s'2; (focus exact w'2); all_goals intro _; all_goals try first | contradiction | (exfalso; omega) | exact absurd trivial ‹_›) | (apply s'1; (focus exact w'1); intro _) | (apply s'0; focus exact w'0) | fail
  refine wh_loop (fun m A L' => ∃ t, m = t.length ∧ t.length ≤ s.length ∧ A = [(0, .str t), (1, .ptr id 256 0 0)] ∧ L' = L ∧ t.dropWhile (fun c => p c.toNat) = s.dropWhile (fun c => p c.toNat)) s.length ⟨s, rfl, by omega, rfl, rfl, rfl⟩ ?_
  rintro m A L' ⟨t, rfl, ht, rfl, rfl, he⟩
  have hc := fun c => contains_rc hm c
  repeat' first | (apply s'2; (focus exact w'2); all_goals intro _; all_goals try first | contradiction | (exfalso; omega) | exact absurd trivial ‹_›) | (apply s'1; (focus exact w'1); intro _) | (apply s'0; focus exact w'0) | fail
  · rename_i h1 h2
    exact fw (by rw [cutL, ← he, stop_while (.inr (by simpa using h2))])
  · rename_i h1 h2
    exact ⟨_, _, by simp; omega, sbc, _, rfl, by simp; omega, rfl, rfl, by rw [← he]; exact drop_while (by omega) (by simpa using h2)⟩
  · exact fw (by rw [cutL, ← he, stop_while (.inl (by omega))])
theorem nth_last {t : List UInt8} {n : Nat} (h : n + 1 = t.length) : nth t n = nth t.reverse 0 := by
  rw [nth_eq (by omega), nth_eq (by simp; omega), List.getElem_reverse]
  congr 1; omega
theorem take_rev {t : List UInt8} : t.take (t.length - 1) = (t.reverse.drop 1).reverse := by
  rw [List.drop_reverse, List.reverse_reverse]
theorem trimR_rc (hm : Mem (.ob id (.row 256 true [bitV p])) L) (s : List UInt8) (hs : s.length ≤ 1048576) : RC T0 L n.strings_trimRightASCII [.str s, .ptr id 256 0 0] (.str (cutR (fun c => p c.toNat) s)) := by
  refine rw' tabOk ?_
  repeat' first | (apply s'2; (focus exact w'2); all_goals intro _; all_goals try first | contradiction | (exfalso; omega) | exact absurd trivial ‹_›) | (apply s'1; (focus exact w'1); intro _) | (apply s'0; focus exact w'0) | fail
  refine wh_loop (fun m A L' => ∃ t, m = t.length ∧ t.length ≤ s.length ∧ A = [(0, .str t), (1, .ptr id 256 0 0)] ∧ L' = L ∧ t.reverse.dropWhile (fun c => p c.toNat) = s.reverse.dropWhile (fun c => p c.toNat)) s.length ⟨s, rfl, by omega, rfl, rfl, rfl⟩ ?_
  rintro m A L' ⟨t, rfl, ht, rfl, rfl, he⟩
  have hc := fun c => contains_rc hm c
  have hx : 0 < (t.length : Int) → nth t ((t.length : Int) - 1).toNat = nth t.reverse 0 := fun h => nth_last (by clear he; omega)
  repeat' first | (apply s'2; (focus exact w'2); all_goals intro _; all_goals try first | contradiction | (exfalso; omega) | exact absurd trivial ‹_›) | (apply s'1; (focus exact w'1); intro _) | (apply s'0; focus exact w'0) | fail
  · rename_i h1 h2
    rw [hx h1] at h2
    exact fw (by rw [cutR, ← he, stop_while (.inr (by simpa using h2)), List.reverse_reverse])
  · rename_i h1 h2
    rw [hx h1] at h2
    rw [show ((t.length : Int) - 1).toNat = t.length - 1 by omega]
    exact ⟨_, _, by simp; omega, sbc, _, rfl, by simp; omega, rfl, rfl, by rw [← he, take_rev, List.reverse_reverse]; exact drop_while (by simp; omega) (by simpa using h2)⟩
  · exact fw (by rw [cutR, ← he, stop_while (.inl (by rw [List.length_reverse]; omega)), List.reverse_reverse])
theorem ok256 : RF (okEl 256 true (V.agg (List.replicate 256 (.bool false))) = true) := ⟨by
  rw [bit_0]; simp only [okEl, bit_len, bit_flat.1, bit_flat.2]; rfl⟩
theorem stc_bit {c : Nat} (h : c < 256) : StC (.bool true) 1 (0 + ((c : Nat) : Int).toNat * 1) 256 true := ⟨by
  simp only [V.cells, List.length_cons, List.length_nil, List.all_cons, List.all_nil, V.sc, V.flat1, Int.toNat_natCast, Nat.zero_add, Nat.mul_one]
  have : Nat.ble (c + 1) 256 = true := by rw [Nat.ble_eq]; omega
  rw [this]; rfl⟩
theorem stc_all : StC (bitV p) 256 0 256 true := ⟨by
  rw [bit_len, bit_flat.1, bit_flat.2]; rfl⟩
theorem bit_isD : (bitV p).isD = true := by
  unfold bitV; simp [V.isD, V.dsc]
def inB (cs : List UInt8) (j : Nat) : Bool := (cs.map (·.toNat)).contains j
theorem pt_all : PT ⟨true, 256⟩ (bitV p).cells 0 (bitV p) := ⟨by
  simp only [part, bit_len, if_true, Nat.zero_add, Nat.le_refl, List.drop_zero]
  rw [List.take_of_length_le (by rw [bit_len]; omega)]
  unfold bitV; rfl⟩
theorem stn_bit {c : Nat} (h : c < 256) : StN [bitV p] 0 (bitV p) (.bool true) (0 + ((c : Nat) : Int).toNat * 1) [bitV (fun j => p j || j == c)] := ⟨by rw [put_bit h]; rfl⟩
theorem stn_same {q : Nat → Bool} : StN [bitV q] 0 (bitV q) (bitV p) 0 [bitV p] := ⟨by
  have : (bitV q).putAt (bitV p) 0 = bitV p := by
    have h1 := @bit_len p; have h2 := @bit_len q
    unfold bitV at h1 h2 ⊢
    simp only [V.cells] at h1 h2
    simp only [V.putAt, setCells, V.cells, List.take_zero, List.nil_append, V.agg.injEq]
    rw [h1, List.drop_eq_nil_of_le (by rw [h2]; omega), List.append_nil]
  rw [this]; rfl⟩
set_option maxRecDepth 100000 in
instance makeSet (cs : List UInt8) : PCon T0 n.strings_makeASCIISet [.str cs] true (cs.length ≤ 1000 ∧ ∀ c ∈ cs, c.toNat < 128) (.tup [bitV (inB cs), .bool true]) := ⟨fun ⟨hl, ha⟩ => by
  have h1 := ok256
  refine pc tabOk ?_
  repeat' first | (apply s'2; (focus exact w'2); all_goals intro _; all_goals try first | contradiction | (exfalso; omega) | exact absurd trivial ‹_›) | (apply s'1; (focus exact w'1); intro _) | (apply s'0; focus exact w'0) | fail
  rename_i id
  refine wh_count cs.length (fun i A L => A = [(0, .str cs), (2, .ptr id 256 0 0), (4, .int .i64 (i : Nat))] ∧ L = [.ob id (.row 256 true [bitV (inB (cs.take i))])]) ⟨rfl, by rw [bit_0]; rfl⟩ ?_
  rintro i A L hi ⟨rfl, rfl⟩
  have hp := @pt_all (inB (cs.take i))
  have h2 := (nth cs i).toNat_lt
  have h3 : i < cs.length → (nth cs i).toNat < 128 := fun h => ha _ (by rw [nth_eq h]; exact List.getElem_mem h)
  have h4 := stc_bit h2
  have h5 := @stn_bit (inB (cs.take i)) _ h2
  have h6 := @stc_all (inB (cs.take i))
  have h7 := @stn_same (inB (cs.take i)) (inB (cs.take i))
  repeat' first | (apply s'2; (focus exact w'2); all_goals intro _; all_goals try first | contradiction | (exfalso; omega) | exact absurd trivial ‹_›) | (apply s'1; (focus exact w'1); intro _) | (apply s'0; focus exact w'0) | fail
  · refine fr_next (by omega) sbc ⟨rfl, ?_⟩
    rw [take_nth (by omega)]
    congr 5
    funext j
    simp only [inB, List.map_append, List.map_cons, List.map_nil]
    rw [Bool.eq_iff_iff]
    simp [or_comm]
  · obtain rfl : i = cs.length := by omega
    rw [List.take_length] at *
    exact fz (hd := FG.froz (dp_tup (dps_cons (dp_d bit_isD) (dps_cons (dp_d rfl) dps_nil)))) rfl⟩
def trimB (p : UInt8 → Bool) (s : List UInt8) : List UInt8 := cutL p (cutR p s)
theorem inB_mem (cs : List UInt8) (c : UInt8) : inB cs c.toNat = cs.contains c := by
  rw [Bool.eq_iff_iff]; simp [inB, UInt8.toNat_inj]
set_option maxRecDepth 100000 in
instance trim (s cs : List UInt8) : PCon T0 n.strings_Trim [.str s, .str cs] false (s.length ≤ 1048576 ∧ 2 ≤ cs.length ∧ cs.length ≤ 1000 ∧ ∀ c ∈ cs, c.toNat < 128) (.str (trimB (fun c => cs.contains c) s)) := ⟨fun ⟨hs, h2, hl, ha⟩ => by
  have h1 := ok256
  have ha' : cs.length ≤ 1000 ∧ ∀ c ∈ cs, c.toNat < 128 := ⟨hl, ha⟩
  have h6 := @stc_all (inB cs)
  have h7 : StN [V.agg (List.replicate 256 (.bool false))] 0 (V.agg (List.replicate 256 (.bool false))) (bitV (inB cs)) 0 [bitV (inB cs)] := ⟨by rw [put_all]; rfl⟩
  have h8 : RF ((bitV (inB cs)).known = true) := ⟨by unfold bitV; rfl⟩
  have hR := fun id => trimR_rc (L := [HE.ob id (.row 256 true [bitV (inB cs)])]) m_here s hs
  have hc : (cutR (fun c => inB cs c.toNat) s).length ≤ 1048576 := by
    have : (cutR (fun c => inB cs c.toNat) s).length ≤ s.length := by
      rw [cutR, List.length_reverse]
      have := (List.dropWhile_sublist (fun c : UInt8 => inB cs c.toNat) (l := s.reverse)).length_le
      simpa using this
    omega
  have hL := fun id => trimL_rc (L := [HE.ob id (.row 256 true [bitV (inB cs)])]) m_here _ hc
  refine pc tabOk ?_
  repeat' first | (apply s'2; (focus exact w'2); all_goals intro _; all_goals try first | contradiction | (exfalso; omega) | exact absurd trivial ‹_›) | (apply s'1; (focus exact w'1); intro _) | (apply s'0; focus exact w'0) | fail
  · rename_i h
    refine fz ?_
    simp only [decide_eq_true_eq] at h
    rcases h with h | h
    · rw [h]; rfl
    · rw [h] at h2; simp at h2
  · refine fz ?_
    simp only [trimB, inB_mem]⟩
end
end Go.AM

set_option linter.unusedVariables false
set_option linter.unusedSimpArgs false
namespace Go.AM
attribute [-simp] List.length_flatten List.map_flatten List.map_take List.map_map List.flatten_append
instance grow_i (k : Nat) : CEI T0 n.slices_Grow___api_Op_api_Op [.nil, .int .i64 (k : Nat)] (k < 4398046511104) (fun L v L' => ∃ g : Hd, v = g.v ∧ L' = .own g 3 true [] :: L) := ⟨fun hk L H hp => by
  by_cases h : k = 0
  · subst h
    exact ⟨.nil, H, _, rowX (g := gGrow) rfl rfl, hp.more (e := .own .nil 3 true []) (fun _ _ => rfl) (.inl ⟨rfl, rfl⟩) (by simp [HE.ids, Hd.ids]) own_nd, .nil, rfl, rfl⟩
  · refine ⟨.ref H.length 3 0 0, H ++ [.row 3 true []], _, rowX (g := gGrow) rfl ?_, hp.more (e := .own (.ref H.length 3 0) 3 true []) (fun i hi => get_app hi) (.inr ⟨H.length, rfl, by simp⟩) (by simp [HE.ids, Hd.ids]) own_nd, .ref H.length 3 0, rfl, rfl⟩
    simp only [gGrow]
    rw [if_neg (by omega), if_pos ⟨by omega, by omega⟩]⟩
instance concat (h : List (List Op)) : PCon T0 n.slices_Concat___api_Op_api_Op [eH h] false (hb h) (eOps h.flatten) := ⟨fun b => by
  refine pc tabOk ?_
  obtain ⟨hn, hb⟩ := b
  repeat' first | (apply s'2; (focus exact w'2); all_goals intro _; all_goals try first | contradiction | (exfalso; omega) | exact absurd trivial ‹_›) | (apply s'1; (focus exact w'1); intro _) | (apply s'0; focus exact w'0) | fail
  refine wh_count h.length (fun i A L => A = [(0, eH h), (3, .int .i64 ((h.take i).flatten.length : Nat)), (9, eH h), (10, .int .i64 (h.length : Nat)), (11, .int .i64 (i : Nat))] ∧ L = []) ⟨rfl, rfl⟩ ?_
  rintro i A L hi ⟨rfl, rfl⟩
  have hl := @flat_len _ h i
  have hle := @flat_le _ h i
  repeat' first | (apply s'2; (focus exact w'2); all_goals intro _; all_goals try first | contradiction | (exfalso; omega) | exact absurd trivial ‹_›) | (apply s'1; (focus exact w'1); intro _) | (apply s'0; focus exact w'0) | fail
  · refine fr_next (by omega) sbc ⟨?_, rfl⟩
    rw [flat_nth (by omega), List.length_append]
  obtain rfl : i = h.length := by omega
  rintro _ _ ⟨g, rfl, rfl⟩
  repeat' first | (apply s'2; (focus exact w'2); all_goals intro _; all_goals try first | contradiction | (exfalso; omega) | exact absurd trivial ‹_›) | (apply s'1; (focus exact w'1); intro _) | (apply s'0; focus exact w'0) | fail
  refine wh_count h.length (fun i A L => ∃ g, A = [(6, Hd.v g), (25, eH h), (26, .int .i64 (h.length : Nat)), (27, .int .i64 (i : Nat))] ∧ L = [.own g 3 true ((h.take i).flatten.map eOp)]) ⟨g, rfl, rfl⟩ ?_
  rintro i A L hi ⟨g, rfl, rfl⟩
  have hl := @flat_len _ h i
  repeat' first | (apply s'2; (focus exact w'2); all_goals intro _; all_goals try first | contradiction | (exfalso; omega) | exact absurd trivial ‹_›) | (apply s'1; (focus exact w'1); intro _) | (apply s'0; focus exact w'0) | fail
  · exact fr_next (by omega) sbc ⟨_, rfl, by rw [flat_nth (by omega), List.map_append]⟩
  · refine fz ?_
    rw [show i = h.length by omega, List.take_length]⟩
instance hist_Flat (h : List (List Op)) : PCon T0 n.hist_Flat [eH h] true (hb h) (eOps h.flatten) := ⟨fun b => by
  refine pc tabOk ?_
  repeat' first | (apply s'2; (focus exact w'2); all_goals intro _; all_goals try first | contradiction | (exfalso; omega) | exact absurd trivial ‹_›) | (apply s'1; (focus exact w'1); intro _) | (apply s'0; focus exact w'0) | fail
  exact fz rfl⟩
def letters : List UInt8 := [97, 98, 99, 100, 101, 102, 103, 104, 105, 106, 107, 108, 109, 110, 111, 112, 113, 114, 115, 116, 117, 118, 119, 120, 121, 122]
theorem dw_all {p : UInt8 → Bool} : ∀ {l : List UInt8}, (∀ x ∈ l.dropWhile p, p x = true) → ∀ x ∈ l, p x = true
  | [], _ => by simp
  | c :: r, h => by
    by_cases hc : p c = true
    · rw [List.dropWhile_cons_of_pos hc] at h
      intro x hx
      rcases List.mem_cons.1 hx with rfl | hx
      · exact hc
      · exact dw_all h x hx
    · rw [List.dropWhile_cons_of_neg hc] at h
      exact h
theorem dw_nil {p : UInt8 → Bool} : ∀ {l : List UInt8}, l.dropWhile p = [] ↔ ∀ x ∈ l, p x = true
  | [] => by simp
  | c :: r => by
    by_cases hc : p c = true
    · rw [List.dropWhile_cons_of_pos hc, dw_nil]; simp [hc]
    · rw [List.dropWhile_cons_of_neg hc]; simp [hc]
theorem trim_nil {p : UInt8 → Bool} {s : List UInt8} : trimB p s = [] ↔ s.all p = true := by
  rw [trimB, cutL, dw_nil, List.all_eq_true, cutR]
  constructor
  · intro h x hx
    exact dw_all (l := s.reverse) (fun y hy => h y (by simpa using hy)) x (by simpa using hx)
  · intro h x hx
    exact h x (by simpa using (List.dropWhile_sublist p (l := s.reverse)).subset (by simpa using hx))
theorem let_low (c : UInt8) : letters.contains c = low c := by
  have : ∀ n < 256, letters.contains (UInt8.ofNat n) = low (UInt8.ofNat n) := by decide +kernel
  have h := this c.toNat (by have := c.toNat_lt; omega)
  simpa using h
instance named (s : List UInt8) : PCon T0 n.hist_named [.str s] false (s.length ≤ 1048576) (.bool (nameB s)) := ⟨fun b => by
  have hb : s.length ≤ 1048576 ∧ 2 ≤ letters.length ∧ letters.length ≤ 1000 ∧ ∀ c ∈ letters, c.toNat < 128 := ⟨b, by decide, by decide, by decide⟩
  refine pc tabOk ?_
  repeat' first | (apply s'2; (focus exact w'2); all_goals intro _; all_goals try first | contradiction | (exfalso; omega) | exact absurd trivial ‹_›) | (apply s'1; (focus exact w'1); intro _) | (apply s'0; focus exact w'0) | fail
  refine fz (vbool ?_)
  show (_ && decide (trimB (fun c => letters.contains c) s = [])) = true ↔ _
  have : s = [] ↔ s.length = 0 := List.length_eq_zero_iff.symm
  simp only [let_low, trim_nil, nameB, Bool.and_eq_true, Bool.not_eq_true', decide_eq_false_iff_not, decide_eq_true_eq, this]
  have h1 : (¬ s.length = 0 ∧ (s.length : Int) ≤ 8) ↔ (1 ≤ s.length ∧ s.length ≤ 8) := by omega
  rw [h1]⟩
instance right1 (o : Op) : PCon T0 n.hist_Right_1 [eOp o] false (o.v.length ≤ 1048576) (.bool (!nameB o.v)) := ⟨fun b => by
  refine pc tabOk ?_
  repeat' first | (apply s'2; (focus exact w'2); all_goals intro _; all_goals try first | contradiction | (exfalso; omega) | exact absurd trivial ‹_›) | (apply s'1; (focus exact w'1); intro _) | (apply s'0; focus exact w'0) | fail
  exact fz rfl⟩
theorem any_nth {α : Type} [Inhabited α] {p : α → Bool} {l : List α} {i : Nat} (hi : i < l.length) : (l.take (i + 1)).any p = ((l.take i).any p || p (nth l i)) := by
  rw [take_nth hi]; simp
/-- The first that is such; -1: there is none. -/
def idxF {α : Type} (p : α → Bool) (l : List α) : Int := match l.findIdx? p with | some i => (i : Int) | none => -1
theorem find_stop {α : Type} [Inhabited α] {p : α → Bool} : ∀ {l : List α} {i : Nat}, i < l.length → (l.take i).any p = false → p (nth l i) = true → l.findIdx? p = some i
  | [], i, h, _, _ => by cases h
  | a :: r, 0, h, _, hp => by
    have : p a = true := hp
    simp [List.findIdx?_cons, this]
  | a :: r, i + 1, h, ha, hp => by
    simp only [List.take_succ_cons, List.any_cons, Bool.or_eq_false_iff] at ha
    rw [List.findIdx?_cons, ha.1, find_stop (l := r) (i := i) (by simpa using h) ha.2 hp]
    rfl
theorem find_none {α : Type} {p : α → Bool} {l : List α} (h : l.any p = false) : l.findIdx? p = none := by
  rw [List.findIdx?_eq_none_iff]
  simpa using h
theorem idx_rc (f : Nat) (p : Op → Bool) (l : List Op) (hl : l.length ≤ 1048576) (hf : ∀ o ∈ l, CX T0 [] f [eOp o] (.bool (p o))) : RC T0 [] n.slices_IndexFunc___api_Op_api_Op [eOps l, .fn f [] []] (.int .i64 (idxF p l)) := by
  refine rw' tabOk ?_
  repeat' first | (apply s'2; (focus exact w'2); all_goals intro _; all_goals try first | contradiction | (exfalso; omega) | exact absurd trivial ‹_›) | (apply s'1; (focus exact w'1); intro _) | (apply s'0; focus exact w'0) | fail
  refine wh_count l.length (fun i A L => A = [(0, eOps l), (1, .fn f [] []), (7, .int .i64 (l.length : Nat)), (8, .int .i64 (i : Nat))] ∧ L = [] ∧ (l.take i).any p = false) ⟨rfl, rfl, rfl⟩ ?_
  rintro i A L hi ⟨rfl, rfl, ha⟩
  by_cases hlt : i < l.length
  · have hc : CX T0 [] f ([] ++ [eOp (nth l i)] ++ []) (.bool (p (nth l i))) := hf _ (by rw [nth_eq hlt]; exact List.getElem_mem hlt)
    repeat' first | (apply s'2; (focus exact w'2); all_goals intro _; all_goals try first | contradiction | (exfalso; omega) | exact absurd trivial ‹_›) | (apply s'1; (focus exact w'1); intro _) | (apply s'0; focus exact w'0) | fail
    · rename_i h1 h2
      exact fw (by rw [idxF, find_stop hlt ha h2])
    · rename_i h1 h2
      exact fr_next (by omega) sbc ⟨rfl, rfl, by rw [any_nth hlt, ha]; simpa using h2⟩
  · repeat' first | (apply s'2; (focus exact w'2); all_goals intro _; all_goals try first | contradiction | (exfalso; omega) | exact absurd trivial ‹_›) | (apply s'1; (focus exact w'1); intro _) | (apply s'0; focus exact w'0) | fail
    rw [show i = l.length by omega, List.take_length] at ha
    exact fw (by rw [idxF, find_none ha])
theorem idx_neg {p : Op → Bool} {l : List Op} : (0 ≤ idxF p l) ↔ l.any p = true := by
  unfold idxF
  cases h : l.findIdx? p with
  | none => rw [List.findIdx?_eq_none_iff] at h; simp; simpa using h
  | some i =>
    rw [List.findIdx?_eq_some_iff_getElem] at h
    obtain ⟨hi, hp, _⟩ := h
    simp only [Int.natCast_nonneg, true_iff, List.any_eq_true]
    exact ⟨_, List.getElem_mem hi, hp⟩
theorem has_rc (f : Nat) (p : Op → Bool) (l : List Op) (hl : l.length ≤ 1048576) (hf : ∀ o ∈ l, CX T0 [] f [eOp o] (.bool (p o))) : RC T0 [] n.slices_ContainsFunc___api_Op_api_Op [eOps l, .fn f [] []] (.bool (l.any p)) := by
  have hx := idx_rc f p l hl hf
  refine rw' tabOk ?_
  repeat' first | (apply s'2; (focus exact w'2); all_goals intro _; all_goals try first | contradiction | (exfalso; omega) | exact absurd trivial ‹_›) | (apply s'1; (focus exact w'1); intro _) | (apply s'0; focus exact w'0) | fail
  refine fw (vbool ?_)
  rw [decide_eq_true_eq]; exact idx_neg
instance hist_Right (h : List (List Op)) : PCon T0 n.hist_Right [eH h] false (hb h ∧ ∀ o ∈ h.flatten, o.v.length ≤ 1048576) (.bool (rightB h)) := ⟨fun ⟨b, bn⟩ => by
  have hx := has_rc n.hist_Right_1 (fun o => !nameB o.v) h.flatten b.2 (fun o ho => x_p (ds := [eOp o]) (dps_cons (dp_d rfl) dps_nil) inferInstance ⟨fun _ => rfl⟩ ⟨bn o ho⟩)
  refine pc tabOk ?_
  repeat' first | (apply s'2; (focus exact w'2); all_goals intro _; all_goals try first | contradiction | (exfalso; omega) | exact absurd trivial ‹_›) | (apply s'1; (focus exact w'1); intro _) | (apply s'0; focus exact w'0) | fail
  refine fz (vbool ?_)
  simp only [rightB, Bool.and_eq_true, Bool.not_eq_true', decide_eq_true_eq, List.any_eq_false, List.all_eq_true, Bool.not_eq_true, Bool.not_eq_false, Bool.not_eq_false']
  rw [and_comm]
  have : ((h.flatten.length : Int) ≤ 4096) ↔ (h.flatten.length ≤ 4096) := by omega
  rw [this]⟩
end Go.AM

set_option linter.unusedVariables false
set_option linter.unusedSimpArgs false
namespace Go.AM
attribute [-simp] List.length_flatten List.map_flatten List.map_take List.map_map List.flatten_append
def cutP (s p : List UInt8) : List UInt8 := if p.isPrefixOf s = true then s.drop p.length else s
abbrev digits : List UInt8 := [48, 49, 50, 51, 52, 53, 54, 55, 56, 57]
def dig (c : UInt8) : Bool := decide (48 ≤ c.toNat) && decide (c.toNat ≤ 57)
theorem dig_mem (c : UInt8) : digits.contains c = dig c := by
  have : ∀ n < 256, digits.contains (UInt8.ofNat n) = dig (UInt8.ofNat n) := by decide +kernel
  have h := this c.toNat (by have := c.toNat_lt; omega)
  simpa using h
end Go.AM

set_option linter.unusedVariables false
set_option linter.unusedSimpArgs false
namespace Go.AM
attribute [-simp] List.length_flatten List.map_flatten List.map_take List.map_map List.flatten_append
theorem nth_drop {α : Type} [Inhabited α] {l : List α} {i j : Nat} : nth (l.drop i) j = nth l (i + j) := by
  simp [nth, List.getD_eq_getElem?_getD]
theorem tw_stop {α : Type} [Inhabited α] {p : α → Bool} : ∀ {l : List α} {m : Nat}, (l.take m).all p = true → m ≤ l.length → (m = l.length ∨ p (nth l m) = false) → (l.takeWhile p).length = m
  | [], m, _, h, _ => by simp at h ⊢; omega
  | a :: r, 0, _, _, h => by
    rcases h with h | h
    · simp at h
    · have : p a = false := h
      simp [this]
  | a :: r, m + 1, h1, h2, h3 => by
    simp only [List.take_succ_cons, List.all_cons, Bool.and_eq_true] at h1
    rw [List.takeWhile_cons_of_pos h1.1, List.length_cons, tw_stop (l := r) (m := m) h1.2 (by simpa using h2) (by
      rcases h3 with h3 | h3
      · left; simpa using h3
      · right; exact h3)]
theorem tw_dw {α : Type} {p : α → Bool} (l : List α) : (l.takeWhile p).length + (l.dropWhile p).length = l.length := by
  rw [← List.length_append, List.takeWhile_append_dropWhile]
def sgn (r : List UInt8) : Nat := if ([45] : List UInt8).isPrefixOf r = true then 1 else 0
def spanR (r : List UInt8) : Nat := sgn r + ((r.drop (sgn r)).takeWhile dig).length
def spanI (s : List UInt8) (a : Int) : Int := if a < 0 ∨ (s.length : Int) ≤ a then 0 else (spanR (s.drop a.toNat) : Nat)
theorem cut_sgn (r : List UInt8) : cutP r [45] = r.drop (sgn r) := by
  unfold cutP sgn
  split <;> rfl
theorem sgn_le (r : List UInt8) : sgn r ≤ r.length := by
  unfold sgn; split
  · rename_i h; have := (List.isPrefixOf_iff_prefix.1 h).length_le; simpa using this
  · omega
theorem sgn_at {r : List UInt8} (h : 0 < r.length) : sgn r = if (nth r 0).toNat = 45 then 1 else 0 := by
  cases r with
  | nil => cases h
  | cons c t =>
    have e : nth (c :: t) 0 = c := rfl
    rw [e]
    unfold sgn
    by_cases hc : c = 45
    · subst hc; simp
    · have : ¬ c.toNat = 45 := fun h => hc (UInt8.toNat_inj.1 h)
      rw [if_neg this, if_neg]
      simp [List.isPrefixOf]
      exact fun h => hc h.symm
set_option maxHeartbeats 1000000 in
instance ref05_Span (s : List UInt8) (a : Int) : PCon T0 n.ref05_Span [.str s, .int .i64 a] false (s.length ≤ 1048576) (.int .i64 (spanI s a)) := ⟨fun hs => by
  refine pc tabOk ?_
  by_cases ha : a < 0 ∨ (s.length : Int) ≤ a
  · repeat' first | (apply s'2; (focus exact w'2); all_goals intro _; all_goals try first | contradiction | (exfalso; omega) | exact absurd trivial ‹_›) | (apply s'1; (focus exact w'1); intro _) | (apply s'0; focus exact w'0) | fail
    refine fz ?_
    rw [spanI, if_pos ha]
  obtain ⟨k, rfl⟩ : ∃ k : Nat, a = (k : Nat) := ⟨a.toNat, by omega⟩
  have hk : k < s.length := by omega
  rw [spanI, if_neg ha, Int.toNat_natCast]
  have hrl : (s.drop k).length = s.length - k := List.length_drop
  have hsg : sgn (s.drop k) = if (nth s k).toNat = 45 then 1 else 0 := by
    rw [sgn_at (by omega), nth_drop]; rfl
  have hsl := sgn_le (s.drop k)
  repeat' first | (apply s'2; (focus exact w'2); all_goals intro _; all_goals try first | contradiction | (exfalso; omega) | exact absurd trivial ‹_›) | (apply s'1; (focus exact w'1); intro _) | (apply s'0; focus exact w'0) | fail
  · rename_i hq
    have hg : sgn (s.drop k) = 1 := by rw [hsg, if_pos (by omega)]
    refine wh_loop (fun m A L => ∃ j : Nat, m = s.length - (k + 1 + j) ∧ A = [(0, .str s), (1, .int .i64 (k : Nat)), (5, .int .i64 ((1 + j : Nat) : Int))] ∧ L = [] ∧ k + 1 + j ≤ s.length ∧ (((s.drop k).drop 1).take j).all dig = true) _ ⟨0, rfl, rfl, rfl, by omega, by simp⟩ ?_
    rintro m A L ⟨j, rfl, rfl, rfl, hj, hall⟩
    have hnd : nth ((s.drop k).drop 1) j = nth s (k + (1 + j)) := by rw [nth_drop, nth_drop]
    have hdl : ((s.drop k).drop 1).length = s.length - k - 1 := by rw [List.length_drop, hrl]
    repeat' first | (apply s'2; (focus exact w'2); all_goals intro _; all_goals try first | contradiction | (exfalso; omega) | exact absurd trivial ‹_›) | (apply s'1; (focus exact w'1); intro _) | (apply s'0; focus exact w'0) | fail
    · rename_i h
      refine ⟨_, _, ?_, sbc, j + 1, rfl, rfl, rfl, by omega, ?_⟩
      · omega
      · rw [all_nth (by omega), hall, hnd, dig]; simp; omega
    · rename_i h
      refine fz ?_
      have ht := tw_stop hall (by omega) (by
        by_cases he : j = ((s.drop k).drop 1).length
        · exact .inl he
        · right; rw [hnd, dig]; simp; omega)
      rw [spanR, hg, ht]
  · rename_i hq
    have hg : sgn (s.drop k) = 0 := by rw [hsg, if_neg (by omega)]
    refine wh_loop (fun m A L => ∃ j : Nat, m = s.length - (k + 0 + j) ∧ A = [(0, .str s), (1, .int .i64 (k : Nat)), (5, .int .i64 ((0 + j : Nat) : Int))] ∧ L = [] ∧ k + 0 + j ≤ s.length ∧ (((s.drop k).drop 0).take j).all dig = true) _ ⟨0, rfl, rfl, rfl, by omega, by simp⟩ ?_
    rintro m A L ⟨j, rfl, rfl, rfl, hj, hall⟩
    have hnd : nth ((s.drop k).drop 0) j = nth s (k + (0 + j)) := by rw [nth_drop, nth_drop]
    simp only [Nat.zero_add] at hnd
    have hdl : ((s.drop k).drop 0).length = s.length - k - 0 := by rw [List.length_drop, hrl]
    repeat' first | (apply s'2; (focus exact w'2); all_goals intro _; all_goals try first | contradiction | (exfalso; omega) | exact absurd trivial ‹_›) | (apply s'1; (focus exact w'1); intro _) | (apply s'0; focus exact w'0) | fail
    · rename_i h
      simp only [Nat.zero_add] at h
      refine ⟨_, _, ?_, sbc, j + 1, rfl, rfl, rfl, by omega, ?_⟩
      · omega
      · rw [all_nth (by omega), hall, hnd, dig]; simp; omega
    · rename_i h
      simp only [Nat.zero_add] at h
      refine fz ?_
      have ht := tw_stop hall (by omega) (by
        by_cases he : j = ((s.drop k).drop 0).length
        · exact .inl he
        · right; rw [hnd, dig]; simp; omega)
      rw [spanR, hg, ht]⟩
end Go.AM

set_option linter.unusedVariables false
set_option linter.unusedSimpArgs false
namespace Go.AM
attribute [-simp] List.length_flatten List.map_flatten List.map_take List.map_map List.flatten_append
def numV (d : List UInt8) : Nat := d.foldl (fun n c => 10 * n + (c.toNat - 48)) 0
def mostN (s : List UInt8) : Nat := 9223372036854775807 + sgn s
def okD (s : List UInt8) : Prop := s.drop (sgn s) ≠ [] ∧ (s.drop (sgn s)).all dig = true ∧ ¬ ((nth (s.drop (sgn s)) 0).toNat = 48 ∧ s ≠ [48])
instance (s : List UInt8) : Decidable (okD s) := by unfold okD; infer_instance
def getS (s : List UInt8) : Int × Int :=
  if okD s then if numV (s.drop (sgn s)) ≤ mostN s then (if sgn s = 1 then -(numV (s.drop (sgn s)) : Int) else numV (s.drop (sgn s)), 0) else (0, 3) else (0, 2)
theorem numV_succ {d : List UInt8} {i : Nat} (h : i < d.length) : numV (d.take (i + 1)) = 10 * numV (d.take i) + ((nth d i).toNat - 48) := by
  rw [take_nth h, numV, List.foldl_append]; rfl
theorem numV_mono (d : List UInt8) (i : Nat) : numV (d.take i) ≤ numV d := by
  have key : ∀ (a b : List UInt8), numV a ≤ numV (a ++ b) := by
    intro a b
    induction b generalizing a with
    | nil => simp
    | cons c r ih =>
      have h1 := ih (a ++ [c])
      rw [List.append_assoc] at h1
      refine Nat.le_trans ?_ h1
      simp only [numV, List.foldl_append, List.foldl_cons, List.foldl_nil]; omega
  have := key (d.take i) (d.drop i)
  rwa [List.take_append_drop] at this
theorem sgn_or (s : List UInt8) : (sgn s = 1 ∧ ([45] : List UInt8).isPrefixOf s = true) ∨ (sgn s = 0 ∧ ([45] : List UInt8).isPrefixOf s = false) := by
  unfold sgn
  cases ([45] : List UInt8).isPrefixOf s <;> simp
end Go.AM

set_option linter.unusedVariables false
set_option linter.unusedSimpArgs false
namespace Go.AM
attribute [-simp] List.length_flatten List.map_flatten List.map_take List.map_map List.flatten_append
theorem span_all {s : List UInt8} (h : s.drop (sgn s) ≠ []) : spanI s 0 = (s.length : Int) ↔ (s.drop (sgn s)).all dig = true := by
  have h0 : s ≠ [] := by rintro rfl; simp at h
  have hl : 0 < s.length := List.length_pos_iff.2 h0
  have e : spanI s 0 = (spanR s : Nat) := by
    unfold spanI
    rw [if_neg (by omega)]; rfl
  have h1 := tw_dw (p := dig) (s.drop (sgn s))
  have h2 := sgn_le s
  rw [List.length_drop] at h1
  rw [e, spanR]
  constructor
  · intro h
    have h3 : ((s.drop (sgn s)).dropWhile dig).length = 0 := by omega
    rw [List.length_eq_zero_iff, dw_nil] at h3
    exact List.all_eq_true.2 h3
  · intro h
    have h3 : (s.drop (sgn s)).dropWhile dig = [] := dw_nil.2 (List.all_eq_true.1 h)
    rw [h3] at h1
    simp at h1
    omega
theorem tdiv_neg' {a : Int} (h : a ≤ 0) : Int.tdiv a 10 = -((-a) / 10) := by
  have : a = -(-a) := by omega
  rw [this, Int.neg_tdiv, Int.tdiv_eq_ediv_of_nonneg (by omega)]; omega
theorem bad_iff {s : List UInt8} (h : s.drop (sgn s) ≠ []) : ¬ okD s ↔ (¬ spanI s 0 = (s.length : Int) ∨ ((nth (s.drop (sgn s)) 0).toNat = 48 ∧ (1 < (s.drop (sgn s)).length ∨ sgn s = 1))) := by
  rw [span_all h]
  unfold okD
  have hl : 0 < (s.drop (sgn s)).length := List.length_pos_iff.2 h
  have key : (nth (s.drop (sgn s)) 0).toNat = 48 → (s ≠ [48] ↔ (1 < (s.drop (sgn s)).length ∨ sgn s = 1)) := by
    intro h48
    rcases sgn_or s with ⟨h1, h2⟩ | ⟨h1, h2⟩
    · constructor
      · exact fun _ => .inr h1
      · rintro _ rfl; simp [sgn, List.isPrefixOf] at h1
    · have e : s.drop (sgn s) = s := by rw [h1]; rfl
      rw [e] at h48 hl ⊢
      constructor
      · intro hne
        left
        by_cases hlen : s.length = 1
        · obtain ⟨c, rfl⟩ := List.length_eq_one_iff.1 hlen
          have : c.toNat = 48 := h48
          exact absurd (by rw [show c = 48 from UInt8.toNat_inj.1 this]) hne
        · omega
      · rintro (hh | hh) rfl
        · simp at hh
        · rw [hh] at h1; cases h1
  constructor
  · intro hn
    by_cases ha : (s.drop (sgn s)).all dig = true
    · right
      by_cases h48 : (nth (s.drop (sgn s)) 0).toNat = 48
      · refine ⟨h48, (key h48).1 fun he => hn ⟨h, ha, fun hh => hh.2 he⟩⟩
      · exact absurd ⟨h, ha, fun hh => h48 hh.1⟩ hn
    · exact .inl ha
  · rintro (ha | ⟨h48, hh⟩) ⟨_, h2, h3⟩
    · exact ha h2
    · exact h3 ⟨h48, (key h48).2 hh⟩
set_option maxHeartbeats 4000000 in
instance ref05_Get (s : List UInt8) : PCon T0 n.ref05_Get [.str s] false (s.length ≤ 1048576) (.tup [.int .i64 (getS s).1, .int .i64 (getS s).2]) := ⟨fun hs => by
  refine pc tabOk ?_
  have hdl0 : (s.drop 1).length = s.length - 1 := List.length_drop
  repeat' first | (apply s'2; (focus exact w'2); all_goals intro _; all_goals try first | contradiction | (exfalso; omega) | exact absurd trivial ‹_›) | (apply s'1; (focus exact w'1); intro _) | (apply s'0; focus exact w'0) | fail
  · rename_i h45 hb
    have hsg : sgn s = 1 := by
      have e : (0 < (s.length : Int) ∧ ((nth s 0).toNat : Int) = 45) := h45
      rw [sgn_at (by omega), if_pos (by omega)]
    have eD : s.drop (sgn s) = (s.drop 1) := by rw [hsg]
    have hb : ((((s.drop 1)).length : Int) = 0 ∨ ¬ spanI s 0 = (s.length : Int)) ∨ (((nth (s.drop 1) 0).toNat : Int) = 48 ∧ (1 < (((s.drop 1)).length : Int) ∨ (-1 : Int) < 0)) := hb
    refine fz ?_
    rw [getS, if_neg]
    · rfl
    · intro hok
      have hne := hok.1
      refine (bad_iff hne).2 ?_ hok
      rw [eD] at hne ⊢
      have hpos : 0 < ((s.drop 1)).length := List.length_pos_iff.2 hne
      rcases hb with (hb | hb) | ⟨hb1, hb2⟩
      · omega
      · exact .inl hb
      · exact .inr ⟨by omega, by omega⟩
  · rename_i h45 hb
    have hsg : sgn s = 1 := by
      have e : (0 < (s.length : Int) ∧ ((nth s 0).toNat : Int) = 45) := h45
      rw [sgn_at (by omega), if_pos (by omega)]
    have eD : s.drop (sgn s) = (s.drop 1) := by rw [hsg]
    have hb : ¬ (((((s.drop 1)).length : Int) = 0 ∨ ¬ spanI s 0 = (s.length : Int)) ∨ (((nth (s.drop 1) 0).toNat : Int) = 48 ∧ (1 < (((s.drop 1)).length : Int) ∨ (-1 : Int) < 0))) := hb
    have hne : s.drop (sgn s) ≠ [] := by
      rw [eD]
      exact List.length_pos_iff.1 (by omega)
    have hok : okD s := by
      refine Decidable.not_not.1 fun h => ?_
      rcases (bad_iff hne).1 h with h | ⟨h1, h2⟩
      · exact hb (.inl (.inr h))
      · rw [eD] at h1 h2
        exact hb (.inr ⟨by omega, by omega⟩)
    have hall := hok.2.1
    rw [eD] at hall
    rw [getS, if_pos hok, mostN, eD, hsg]
    have hdl : ((s.drop 1)).length ≤ 1048576 := by have := hs; rw [List.length_drop]; omega
    clear hb hne hok
    rw [show s.drop (Int.toNat 1) = s.drop 1 from rfl]
    generalize s.drop 1 = d at *
    refine wh_count d.length (fun i A L => A = [(4, .int .i64 (-1)), (5, .str d), (6, .int .i64 (-(numV (d.take i) : Nat))), (7, .int .i64 (i : Nat))] ∧ L = [] ∧ numV (d.take i) ≤ 9223372036854775808) ⟨rfl, rfl, by simp [numV]⟩ ?_
    rintro i A L hi ⟨rfl, rfl, hle⟩
    by_cases hlt : i < d.length
    · have hc : dig (nth d i) = true := List.all_eq_true.1 hall _ (by rw [nth_eq hlt]; exact List.getElem_mem _)
      simp only [dig, Bool.and_eq_true, decide_eq_true_eq] at hc
      have hns := numV_succ hlt
      have hmn := numV_mono d (i + 1)
      have w0 : WR .i64 ((nth d i).toNat : Nat) ((nth d i).toNat : Nat) := ⟨by rw [IntKind.wrap_i64]; omega⟩
      have wA : WR .i64 (Int.tdiv (9223372036854775807 - (-1 * (((nth d i).toNat : Int) - 48))) 10) (IntKind.i64.wrap (Int.tdiv (9223372036854775807 - (-1 * (((nth d i).toNat : Int) - 48))) 10)) := ⟨rfl⟩
      have wB : WR .i64 (Int.tdiv (-9223372036854775808 - (-1 * (((nth d i).toNat : Int) - 48))) 10) (-((9223372036854775808 - (((nth d i).toNat : Int) - 48)) / 10)) := ⟨by rw [tdiv_neg' (by omega), IntKind.wrap_i64]; omega⟩
      repeat' first | (apply s'2; (focus exact w'2); all_goals intro _; all_goals try first | contradiction | (exfalso; omega) | exact absurd trivial ‹_›) | (apply s'1; (focus exact w'1); intro _) | (apply s'0; focus exact w'0) | fail
      · refine fz ?_
        rename_i h1
        rw [if_neg (by omega)]; rfl
      · rename_i h1
        refine fr_next (by omega) sbc ⟨?_, rfl, by omega⟩
        rw [show 10 * -((numV (d.take i) : Nat) : Int) + -1 * (((nth d i).toNat : Int) - 48) = -((numV (d.take (i + 1)) : Nat) : Int) by omega]
    · obtain rfl : i = d.length := by omega
      rw [List.take_length] at hle ⊢
      repeat' first | (apply s'2; (focus exact w'2); all_goals intro _; all_goals try first | contradiction | (exfalso; omega) | exact absurd trivial ‹_›) | (apply s'1; (focus exact w'1); intro _) | (apply s'0; focus exact w'0) | fail
      refine fz ?_
      rw [if_pos (by omega)]; rfl
  · rename_i h45 hb
    have hsg : sgn s = 0 := by
      have e : ¬ (0 < (s.length : Int) ∧ ((nth s 0).toNat : Int) = 45) := h45
      rcases Nat.lt_or_ge 0 s.length with hl | hl
      · rw [sgn_at hl, if_neg (by omega)]
      · rw [show s = [] from List.length_eq_zero_iff.1 (by omega)]; rfl
    have eD : s.drop (sgn s) = s := by rw [hsg]; rfl
    have hb : (((s).length : Int) = 0 ∨ ¬ spanI s 0 = (s.length : Int)) ∨ (((nth s 0).toNat : Int) = 48 ∧ (1 < ((s).length : Int) ∨ (1 : Int) < 0)) := hb
    refine fz ?_
    rw [getS, if_neg]
    · rfl
    · intro hok
      have hne := hok.1
      refine (bad_iff hne).2 ?_ hok
      rw [eD] at hne ⊢
      have hpos : 0 < (s).length := List.length_pos_iff.2 hne
      rcases hb with (hb | hb) | ⟨hb1, hb2⟩
      · omega
      · exact .inl hb
      · exact .inr ⟨by omega, by omega⟩
  · rename_i h45 hb
    have hsg : sgn s = 0 := by
      have e : ¬ (0 < (s.length : Int) ∧ ((nth s 0).toNat : Int) = 45) := h45
      rcases Nat.lt_or_ge 0 s.length with hl | hl
      · rw [sgn_at hl, if_neg (by omega)]
      · rw [show s = [] from List.length_eq_zero_iff.1 (by omega)]; rfl
    have eD : s.drop (sgn s) = s := by rw [hsg]; rfl
    have hb : ¬ ((((s).length : Int) = 0 ∨ ¬ spanI s 0 = (s.length : Int)) ∨ (((nth s 0).toNat : Int) = 48 ∧ (1 < ((s).length : Int) ∨ (1 : Int) < 0))) := hb
    have hne : s.drop (sgn s) ≠ [] := by
      rw [eD]
      exact List.length_pos_iff.1 (by omega)
    have hok : okD s := by
      refine Decidable.not_not.1 fun h => ?_
      rcases (bad_iff hne).1 h with h | ⟨h1, h2⟩
      · exact hb (.inl (.inr h))
      · rw [eD] at h1 h2
        exact hb (.inr ⟨by omega, by omega⟩)
    have hall := hok.2.1
    rw [eD] at hall
    rw [getS, if_pos hok, mostN, eD, hsg]
    have hdl : (s).length ≤ 1048576 := by have := hs; omega
    clear hb hne hok
    clear eD
    generalize s = d at *
    refine wh_count d.length (fun i A L => A = [(4, .int .i64 (1)), (5, .str d), (6, .int .i64 (numV (d.take i) : Nat)), (7, .int .i64 (i : Nat))] ∧ L = [] ∧ numV (d.take i) ≤ 9223372036854775807) ⟨rfl, rfl, by simp [numV]⟩ ?_
    rintro i A L hi ⟨rfl, rfl, hle⟩
    by_cases hlt : i < d.length
    · have hc : dig (nth d i) = true := List.all_eq_true.1 hall _ (by rw [nth_eq hlt]; exact List.getElem_mem _)
      simp only [dig, Bool.and_eq_true, decide_eq_true_eq] at hc
      have hns := numV_succ hlt
      have hmn := numV_mono d (i + 1)
      have w0 : WR .i64 ((nth d i).toNat : Nat) ((nth d i).toNat : Nat) := ⟨by rw [IntKind.wrap_i64]; omega⟩
      have wA : WR .i64 (Int.tdiv (9223372036854775807 - (1 * (((nth d i).toNat : Int) - 48))) 10) ((9223372036854775807 - (((nth d i).toNat : Int) - 48)) / 10) := ⟨by rw [Int.tdiv_eq_ediv_of_nonneg (by omega), IntKind.wrap_i64]; omega⟩
      have wB : WR .i64 (Int.tdiv (-9223372036854775808 - (1 * (((nth d i).toNat : Int) - 48))) 10) (IntKind.i64.wrap (Int.tdiv (-9223372036854775808 - (1 * (((nth d i).toNat : Int) - 48))) 10)) := ⟨rfl⟩
      repeat' first | (apply s'2; (focus exact w'2); all_goals intro _; all_goals try first | contradiction | (exfalso; omega) | exact absurd trivial ‹_›) | (apply s'1; (focus exact w'1); intro _) | (apply s'0; focus exact w'0) | fail
      · refine fz ?_
        rename_i h1
        rw [if_neg (by omega)]; rfl
      · rename_i h1
        refine fr_next (by omega) sbc ⟨?_, rfl, by omega⟩
        rw [show 10 * ((numV (d.take i) : Nat) : Int) + 1 * (((nth d i).toNat : Int) - 48) = ((numV (d.take (i + 1)) : Nat) : Int) by omega]
    · obtain rfl : i = d.length := by omega
      rw [List.take_length] at hle ⊢
      repeat' first | (apply s'2; (focus exact w'2); all_goals intro _; all_goals try first | contradiction | (exfalso; omega) | exact absurd trivial ‹_›) | (apply s'1; (focus exact w'1); intro _) | (apply s'0; focus exact w'0) | fail
      refine fz ?_
      rw [if_pos (by omega)]; rfl⟩
end Go.AM

set_option linter.unusedVariables false
set_option linter.unusedSimpArgs false
namespace Go.AM
open Go.Lib
attribute [-simp] List.length_flatten List.map_flatten List.map_take List.map_map List.flatten_append
/-! Numerals. -/
theorem dec_big {u : Nat} (h : ¬ u < 10) : decDigits u = decDigits (u / 10) ++ [UInt8.ofNat (48 + u % 10)] := by
  conv => lhs; rw [decDigits]
  rw [dif_neg h]
theorem dec_small {u : Nat} (h : u < 10) : decDigits u = [UInt8.ofNat (48 + u)] := decDigits_one h
theorem dec_rec {P : Nat → Prop} (h1 : ∀ u, u < 10 → P u) (h2 : ∀ u, ¬ u < 10 → P (u / 10) → P u) : ∀ u, P u := fun u => by
  induction u using Nat.strongRecOn with
  | _ u ih =>
    by_cases h : u < 10
    · exact h1 u h
    · exact h2 u h (ih _ (by omega))
theorem byte_nat {d : Nat} (h : d < 10) : (UInt8.ofNat (48 + d)).toNat = 48 + d := by
  rw [UInt8.toNat_ofNat']; omega
theorem dec_ne (u : Nat) : 1 ≤ (decDigits u).length := by
  by_cases h : u < 10
  · rw [dec_small h]; simp
  · rw [dec_big h]; simp
theorem dec_dig : ∀ u, (decDigits u).all dig = true := dec_rec
  (fun u h => by
    rw [dec_small h]
    simp only [List.all_cons, List.all_nil, Bool.and_true, dig, byte_nat h, Bool.and_eq_true, decide_eq_true_eq]; omega)
  (fun u h ih => by
    rw [dec_big h, List.all_append, ih, Bool.true_and]
    simp only [List.all_cons, List.all_nil, Bool.and_true, dig, byte_nat (d := u % 10) (by omega), Bool.and_eq_true, decide_eq_true_eq]; omega)
theorem numV_snoc (l : List UInt8) (c : UInt8) : numV (l ++ [c]) = 10 * numV l + (c.toNat - 48) := by
  rw [numV, List.foldl_append]; rfl
theorem dec_num : ∀ u, numV (decDigits u) = u := dec_rec
  (fun u h => by
    rw [dec_small h]
    show 10 * 0 + ((UInt8.ofNat (48 + u)).toNat - 48) = u
    rw [byte_nat h]; omega)
  (fun u h ih => by
    rw [dec_big h, numV_snoc, ih, byte_nat (by omega)]; omega)
theorem dec_len_le : ∀ u, (decDigits u).length ≤ u + 1 := dec_rec
  (fun u h => by rw [dec_small h]; simp)
  (fun u h ih => by rw [dec_big h, List.length_append]; simp; omega)
theorem dec_len {u : Nat} (h : u ≤ 9223372036854775808) : (decDigits u).length ≤ 20 := by
  have key : ∀ k u, u < 10 ^ k → 1 ≤ k → (decDigits u).length ≤ k := by
    intro k
    induction k with
    | zero => intro u _ h; omega
    | succ k ih =>
      intro u hu _
      by_cases h : u < 10
      · rw [dec_small h]; simp
      · rw [dec_big h, List.length_append]
        have hk : 1 ≤ k := by
          cases k with
          | zero => rw [Nat.zero_add, Nat.pow_one] at hu; omega
          | succ k => omega
        have := ih (u / 10) (by rw [Nat.pow_succ] at hu; omega) hk
        rw [List.length_singleton]; omega
  exact key 20 u (Nat.lt_of_le_of_lt h (by decide)) (by decide)
theorem itoa_len {q : Int} (h : -9223372036854775808 ≤ q ∧ q ≤ 9223372036854775807) : (itoa q).length ≤ 21 := by
  unfold itoa; split
  · have := dec_len (u := q.natAbs) (by omega); rw [List.length_cons]; omega
  · have := dec_len (u := q.toNat) (by omega); omega
def okN (q : Int) : Prop := -9223372036854775808 ≤ q ∧ q ≤ 9223372036854775807
theorem deep_int {j : Nat} {H : Heap} {k : IntKind} {m : Int} {x : V} (h : deep H (j + 1) x = some (.int k m)) : x = .int k m := by
  cases x with
  | int k' m' => injection h with h
  | ref id s off len =>
    simp only [deep] at h
    split at h
    · split at h
      · split at h
        · cases h
        · obtain ⟨_, _, h⟩ := Option.map_eq_some_iff.1 h; cases h
      · cases h
    · cases h
  | agg cs => obtain ⟨_, _, h⟩ := Option.map_eq_some_iff.1 h; cases h
  | tup cs => obtain ⟨_, _, h⟩ := Option.map_eq_some_iff.1 h; cases h
  | _ => simp [deep] at h
theorem mapM1 {H : Heap} {xs : List V} {d : V} (h : xs.mapM (deep H 8) = some [d]) : ∃ x, xs = [x] ∧ deep H 8 x = some d := by
  match xs, h with
  | [], h => cases h
  | [x], h =>
    simp only [List.mapM_cons, List.mapM_nil, Option.bind_eq_bind, Option.bind_eq_some_iff, Option.pure_def, Option.some.injEq] at h
    obtain ⟨a, h1, b, h2, h3⟩ := h
    subst h2
    injection h3 with h3 _
    exact ⟨x, rfl, by rw [h1, h3]⟩
  | x :: y :: r, h => have := mapM_len h; simp at this
instance itoa_pc (m : Int) : PCon T0 n.strconv_Itoa [.int .i64 m] false (okN m) (.str (itoa m)) := ⟨fun hn xs H hx _ => by
  obtain ⟨x, rfl, h⟩ := mapM1 hx
  rw [deep_int (j := 7) h]
  refine rowX (g := gItoa) rfl ?_
  simp only [gItoa]
  rw [if_pos (show _ ∧ _ from hn)]⟩
instance num_Put (m : Int) : PCon T0 n.num_Put [.int .i64 m] true (okN m) (.str (itoa m)) := ⟨fun hn => by
  refine pc tabOk ?_
  repeat' first | (apply s'2; (focus exact w'2); all_goals intro _; all_goals try first | contradiction | (exfalso; omega) | exact absurd trivial ‹_›) | (apply s'1; (focus exact w'1); intro _) | (apply s'0; focus exact w'0) | fail
  exact fz rfl⟩
theorem td_abs (K : Int) : (K.tdiv 10).natAbs = K.natAbs / 10 ∧ (K.tmod 10).natAbs = K.natAbs % 10 := by
  refine ⟨Int.natAbs_tdiv K 10, ?_⟩
  rw [Int.natAbs_tmod]; rfl
set_option maxHeartbeats 1000000 in
instance ref05_Put (m : Int) : PCon T0 n.ref05_Put [.int .i64 m] true (okN m) (.str (itoa m)) := ⟨fun hn => by
  obtain ⟨hn1, hn2⟩ := hn
  have hdl := dec_len (u := m.natAbs) (by omega)
  refine pc tabOk ?_
  repeat' first | (apply s'2; (focus exact w'2); all_goals intro _; all_goals try first | contradiction | (exfalso; omega) | exact absurd trivial ‹_›) | (apply s'1; (focus exact w'1); intro _) | (apply s'0; focus exact w'0) | fail
  refine wh_loop (fun j A L => ∃ (K : Int) (t : List UInt8), j = K.natAbs ∧ -9223372036854775808 ≤ K ∧ K ≤ 9223372036854775807 ∧ decDigits m.natAbs = decDigits K.natAbs ++ t ∧ A = [(0, .int .i64 m), (3, .str t), (4, .int .i64 K)] ∧ L = []) _ ⟨m, [], rfl, hn1, hn2, by rw [List.append_nil], rfl, rfl⟩ ?_
  rintro j A L ⟨K, t, rfl, hK1, hK2, hD, rfl, rfl⟩
  obtain ⟨hq, hr⟩ := td_abs K
  have htl : t.length ≤ 20 := by rw [hD, List.length_append] at hdl; omega
  have hqb : -9223372036854775808 ≤ K.tdiv 10 ∧ K.tdiv 10 ≤ 9223372036854775807 := by omega
  have hw : WR .i64 (K.tdiv 10) (K.tdiv 10) := ⟨w64 hqb⟩
  have hw1 : WR .i64 (0 - K.tmod 10) (0 - K.tmod 10) := ⟨w64 (by omega)⟩
  repeat' first | (apply s'1; (focus exact w'1); intro _) | (apply s'0; focus exact w'v) | fail
  refine wh_cat (fun A L => A = [(0, .int .i64 m), (3, .str t), (4, .int .i64 K), (5, .int .i64 ((K.natAbs % 10 : Nat) : Int))] ∧ L = []) ?_ ?_
  · repeat' first | (apply s'2; (focus exact w'2); all_goals intro _; all_goals try first | contradiction | (exfalso; omega) | exact absurd trivial ‹_›) | (apply s'1; (focus exact w'1); intro _) | (apply s'0; focus exact w'0) | fail
    · rename_i h
      exact ⟨by rw [show 0 - K.tmod 10 = ((K.natAbs % 10 : Nat) : Int) by omega], rfl⟩
    · rename_i h
      exact ⟨by rw [show K.tmod 10 = ((K.natAbs % 10 : Nat) : Int) by omega], rfl⟩
  rintro _ _ ⟨rfl, rfl⟩
  have hw2 : WR .u8 (48 + ((K.natAbs % 10 : Nat) : Int)) ((48 + K.natAbs % 10 : Nat) : Int) := ⟨by rw [IntKind.wrap_u8]; omega⟩
  have hb : UInt8.ofNat (((48 + K.natAbs % 10 : Nat) : Int)).toNat = UInt8.ofNat (48 + K.natAbs % 10) := by rw [Int.toNat_natCast]
  have hend : K.tdiv 10 = 0 → decDigits m.natAbs = [UInt8.ofNat (48 + K.natAbs % 10)] ++ t := fun h0 => by
    have h1 : K.natAbs < 10 := by rw [h0] at hq; simp at hq; omega
    rw [hD, dec_small h1, Nat.mod_eq_of_lt h1]
  repeat' first | (apply s'2; (focus exact w'2); all_goals intro _; all_goals try first | contradiction | (exfalso; omega) | exact absurd trivial ‹_›) | (apply s'1; (focus exact w'1); intro _) | (apply s'0; focus exact w'0) | fail
  · rename_i h0 h
    refine fz ?_
    rw [hb, itoa, if_pos h, hend h0]; rfl
  · rename_i h0 h
    refine fz ?_
    rw [hb, itoa, if_neg h, show m.toNat = m.natAbs by omega, hend h0]
  · rename_i h0
    have h1 : ¬ K.natAbs < 10 := fun h1 => h0 (by omega)
    refine ⟨_, _, ?_, .of (List.nil_sublist _), K.tdiv 10, _, rfl, hqb.1, hqb.2, ?_, rfl, rfl⟩
    · omega
    · rw [hD, dec_big h1, hq, hb, List.append_assoc]⟩
end Go.AM

