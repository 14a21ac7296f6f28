/- Part ZA of the proof. -/
import Derived.Test.YtbjikpplkjeaiaaDoorTA
set_option linter.unusedVariables false
set_option linter.unusedSimpArgs false
namespace Go.AM
attribute [-simp] List.length_flatten List.map_flatten List.map_take List.map_map List.flatten_append
structure Op where
  w : Bool
  v : List UInt8
  x : Int
  deriving Inhabited, DecidableEq
@[reducible] def eOp (o : Op) : V := .agg [.bool o.w, .str o.v, .int .i64 o.x]
@[reducible] def eOps (l : List Op) : V := .lst (l.map eOp)
@[reducible] def eH (h : List (List Op)) : V := .lst (h.map eOps)
/-- Histories that are not beyond all measure. -/
def hb (h : List (List Op)) : Prop := h.length ≤ 1048576 ∧ h.flatten.length ≤ 1048576
theorem vbool {a b : Bool} (h : a = true ↔ b = true) : V.bool a = V.bool b := by rw [Bool.eq_iff_iff.2 h]
theorem take_nth {α : Type} [Inhabited α] {l : List α} {i : Nat} (h : i < l.length) : l.take (i + 1) = l.take i ++ [nth l i] := by
  rw [List.take_add_one, getI h]; rfl
theorem flat_nth {α : Type} {h : List (List α)} {i : Nat} (hi : i < h.length) : (h.take (i + 1)).flatten = (h.take i).flatten ++ nth h i := by
  rw [take_nth hi]; simp only [List.flatten_append, List.flatten_cons, List.flatten_nil, List.append_nil]
theorem flat_le {α : Type} {h : List (List α)} (i : Nat) : (h.take i).flatten.length ≤ h.flatten.length := by
  have := congrArg (fun l => (List.flatten l).length) (List.take_append_drop i h)
  simp only [List.flatten_append, List.length_append] at this
  omega
theorem flat_len {α : Type} {h : List (List α)} {i : Nat} (hi : i < h.length) : (h.take i).flatten.length + (nth h i).length ≤ h.flatten.length := by
  have := flat_le (h := h) (i + 1)
  rw [flat_nth hi, List.length_append] at this
  exact this
instance ref06_Flat (h : List (List Op)) : PCon T0 n.ref06_Flat [eH h] false (hb h) (eOps h.flatten) := ⟨fun b => by
  refine pc tabOk ?_
  obtain ⟨hn, hb⟩ := b
  repeat' first | refine wh_seq ?_ | refine wh_skip ?_ | refine wh_block ?_ | refine wh_end ?_ | refine wh_exit ?_ | refine wh_ret ?_ | refine bk_norm ?_ | refine bk_exit ?_ | refine bk_ret ?_ | refine fr_exit ?_ | refine fr_ret ?_ | refine lp_exit ?_ | refine lp_ret ?_ | refine bk_other rfl ?_ | (apply wr; focus exact xx) | (apply wi; (focus exact xx); (focus exact xx); all_goals intro _; all_goals try first | contradiction | (exfalso; omega) | exact absurd trivial ‹_›) | refine wh_reg ?_ | refine wh_raw ?_ | (apply dr_fin; (focus exact xx)) | (apply dr_v; (focus exact xd)) | (apply dr_r; (focus exact xd)) | (apply dr_l; (focus exact RF.mk rfl); (focus exact RF.mk rfl); (focus exact RF.mk rfl); (focus exact RF.mk rfl); (focus exact RF.mk rfl)) | (apply dr_e; (focus exact RF.mk rfl); (focus exact RF.mk rfl); (focus exact RF.mk rfl); (focus exact RF.mk rfl)) | (apply rd_e; (focus exact xx); (focus exact xd)) | (apply rd_l; (focus exact xx)) | refine wh_ife ?_ | (apply re; focus exact xx) | (apply rf; (focus exact xx); (focus exact xx); all_goals intro _; all_goals try first | contradiction | (exfalso; omega) | exact absurd trivial ‹_›) | (apply ra; (focus exact xx); (focus exact xx); intro _) | (apply r1; (focus exact xx); (focus exact xx); intro _) | (apply rl; (focus exact xx); (focus exact xx); intro _) | (apply rb; (focus exact xx); (focus exact xx); intro _) | (apply rt; (focus exact xx); (focus exact xx)) | (apply rsi; (focus exact xx); (focus exact xx)) | (apply rsz; (focus exact xx); (focus exact xx)) | (apply rso; (focus exact xx); (focus exact xx)) | (apply rmm; (focus exact xx); intro _) | (apply ru; (focus exact xx); (focus exact xx)) | (apply rm; (focus exact xx); (focus exact xx); intro _) | (apply rk; (focus exact xx); (focus exact xx); intro _) | (apply rc; (focus exact xx); (focus exact xx)) | (apply rk'; (focus exact xx); (focus exact xx))
  refine wn 3 true ?_
  refine wh_count h.length (fun i A L => ∃ g, A = [(0, eH h), (3, Hd.v g), (4, .int .i64 (i : Nat))] ∧ L = [.own g 3 true ((h.take i).flatten.map eOp)]) ⟨.nil, rfl, rfl⟩ ?_
  rintro i A L hi ⟨g, rfl, rfl⟩
  have hl := @flat_len _ h i
  repeat' first | refine wh_seq ?_ | refine wh_skip ?_ | refine wh_block ?_ | refine wh_end ?_ | refine wh_exit ?_ | refine wh_ret ?_ | refine bk_norm ?_ | refine bk_exit ?_ | refine bk_ret ?_ | refine fr_exit ?_ | refine fr_ret ?_ | refine lp_exit ?_ | refine lp_ret ?_ | refine bk_other rfl ?_ | (apply wr; focus exact xx) | (apply wi; (focus exact xx); (focus exact xx); all_goals intro _; all_goals try first | contradiction | (exfalso; omega) | exact absurd trivial ‹_›) | refine wh_reg ?_ | refine wh_raw ?_ | (apply dr_fin; (focus exact xx)) | (apply dr_v; (focus exact xd)) | (apply dr_r; (focus exact xd)) | (apply dr_l; (focus exact RF.mk rfl); (focus exact RF.mk rfl); (focus exact RF.mk rfl); (focus exact RF.mk rfl); (focus exact RF.mk rfl)) | (apply dr_e; (focus exact RF.mk rfl); (focus exact RF.mk rfl); (focus exact RF.mk rfl); (focus exact RF.mk rfl)) | (apply rd_e; (focus exact xx); (focus exact xd)) | (apply rd_l; (focus exact xx)) | refine wh_ife ?_ | (apply re; focus exact xx) | (apply rf; (focus exact xx); (focus exact xx); all_goals intro _; all_goals try first | contradiction | (exfalso; omega) | exact absurd trivial ‹_›) | (apply ra; (focus exact xx); (focus exact xx); intro _) | (apply r1; (focus exact xx); (focus exact xx); intro _) | (apply rl; (focus exact xx); (focus exact xx); intro _) | (apply rb; (focus exact xx); (focus exact xx); intro _) | (apply rt; (focus exact xx); (focus exact xx)) | (apply rsi; (focus exact xx); (focus exact xx)) | (apply rsz; (focus exact xx); (focus exact xx)) | (apply rso; (focus exact xx); (focus exact xx)) | (apply rmm; (focus exact xx); intro _) | (apply ru; (focus exact xx); (focus exact xx)) | (apply rm; (focus exact xx); (focus exact xx); intro _) | (apply rk; (focus exact xx); (focus exact xx); intro _) | (apply rc; (focus exact xx); (focus exact xx)) | (apply rk'; (focus exact xx); (focus exact xx))
  · exact fr_next (by omega) sbc ⟨_, rfl, by rw [flat_nth (by omega), List.map_append]⟩
  · refine fz ?_
    rw [show i = h.length by omega, List.take_length]⟩
instance ref06_Count (h : List (List Op)) : PCon T0 n.ref06_Count [eH h] false (hb h) (.int .i64 (h.flatten.length : Nat)) := ⟨fun b => by
  refine pc tabOk ?_
  repeat' first | refine wh_seq ?_ | refine wh_skip ?_ | refine wh_block ?_ | refine wh_end ?_ | refine wh_exit ?_ | refine wh_ret ?_ | refine bk_norm ?_ | refine bk_exit ?_ | refine bk_ret ?_ | refine fr_exit ?_ | refine fr_ret ?_ | refine lp_exit ?_ | refine lp_ret ?_ | refine bk_other rfl ?_ | (apply wr; focus exact xx) | (apply wi; (focus exact xx); (focus exact xx); all_goals intro _; all_goals try first | contradiction | (exfalso; omega) | exact absurd trivial ‹_›) | refine wh_reg ?_ | refine wh_raw ?_ | (apply dr_fin; (focus exact xx)) | (apply dr_v; (focus exact xd)) | (apply dr_r; (focus exact xd)) | (apply dr_l; (focus exact RF.mk rfl); (focus exact RF.mk rfl); (focus exact RF.mk rfl); (focus exact RF.mk rfl); (focus exact RF.mk rfl)) | (apply dr_e; (focus exact RF.mk rfl); (focus exact RF.mk rfl); (focus exact RF.mk rfl); (focus exact RF.mk rfl)) | (apply rd_e; (focus exact xx); (focus exact xd)) | (apply rd_l; (focus exact xx)) | refine wh_ife ?_ | (apply re; focus exact xx) | (apply rf; (focus exact xx); (focus exact xx); all_goals intro _; all_goals try first | contradiction | (exfalso; omega) | exact absurd trivial ‹_›) | (apply ra; (focus exact xx); (focus exact xx); intro _) | (apply r1; (focus exact xx); (focus exact xx); intro _) | (apply rl; (focus exact xx); (focus exact xx); intro _) | (apply rb; (focus exact xx); (focus exact xx); intro _) | (apply rt; (focus exact xx); (focus exact xx)) | (apply rsi; (focus exact xx); (focus exact xx)) | (apply rsz; (focus exact xx); (focus exact xx)) | (apply rso; (focus exact xx); (focus exact xx)) | (apply rmm; (focus exact xx); intro _) | (apply ru; (focus exact xx); (focus exact xx)) | (apply rm; (focus exact xx); (focus exact xx); intro _) | (apply rk; (focus exact xx); (focus exact xx); intro _) | (apply rc; (focus exact xx); (focus exact xx)) | (apply rk'; (focus exact xx); (focus exact xx))
  exact fz rfl⟩
def low (c : UInt8) : Bool := decide (97 ≤ c.toNat) && decide (c.toNat ≤ 122)
def nameB (s : List UInt8) : Bool := decide (1 ≤ s.length) && decide (s.length ≤ 8) && s.all low
theorem all_nth {α : Type} [Inhabited α] {p : α → Bool} {l : List α} {i : Nat} (hi : i < l.length) : (l.take (i + 1)).all p = ((l.take i).all p && p (nth l i)) := by
  rw [take_nth hi]; simp
theorem all_false {α : Type} [Inhabited α] {p : α → Bool} {l : List α} {i : Nat} (hi : i < l.length) (h : p (nth l i) = false) : l.all p = false := by
  cases ha : l.all p with
  | false => rfl
  | true => rw [nth_eq hi, List.all_eq_true.1 ha _ (List.getElem_mem hi)] at h; cases h
instance ref06_Name (s : List UInt8) : PCon T0 n.ref06_Name [.str s] false (s.length ≤ 1048576) (.bool (nameB s)) := ⟨fun b => by
  refine pc tabOk ?_
  repeat' first | refine wh_seq ?_ | refine wh_skip ?_ | refine wh_block ?_ | refine wh_end ?_ | refine wh_exit ?_ | refine wh_ret ?_ | refine bk_norm ?_ | refine bk_exit ?_ | refine bk_ret ?_ | refine fr_exit ?_ | refine fr_ret ?_ | refine lp_exit ?_ | refine lp_ret ?_ | refine bk_other rfl ?_ | (apply wr; focus exact xx) | (apply wi; (focus exact xx); (focus exact xx); all_goals intro _; all_goals try first | contradiction | (exfalso; omega) | exact absurd trivial ‹_›) | refine wh_reg ?_ | refine wh_raw ?_ | (apply dr_fin; (focus exact xx)) | (apply dr_v; (focus exact xd)) | (apply dr_r; (focus exact xd)) | (apply dr_l; (focus exact RF.mk rfl); (focus exact RF.mk rfl); (focus exact RF.mk rfl); (focus exact RF.mk rfl); (focus exact RF.mk rfl)) | (apply dr_e; (focus exact RF.mk rfl); (focus exact RF.mk rfl); (focus exact RF.mk rfl); (focus exact RF.mk rfl)) | (apply rd_e; (focus exact xx); (focus exact xd)) | (apply rd_l; (focus exact xx)) | refine wh_ife ?_ | (apply re; focus exact xx) | (apply rf; (focus exact xx); (focus exact xx); all_goals intro _; all_goals try first | contradiction | (exfalso; omega) | exact absurd trivial ‹_›) | (apply ra; (focus exact xx); (focus exact xx); intro _) | (apply r1; (focus exact xx); (focus exact xx); intro _) | (apply rl; (focus exact xx); (focus exact xx); intro _) | (apply rb; (focus exact xx); (focus exact xx); intro _) | (apply rt; (focus exact xx); (focus exact xx)) | (apply rsi; (focus exact xx); (focus exact xx)) | (apply rsz; (focus exact xx); (focus exact xx)) | (apply rso; (focus exact xx); (focus exact xx)) | (apply rmm; (focus exact xx); intro _) | (apply ru; (focus exact xx); (focus exact xx)) | (apply rm; (focus exact xx); (focus exact xx); intro _) | (apply rk; (focus exact xx); (focus exact xx); intro _) | (apply rc; (focus exact xx); (focus exact xx)) | (apply rk'; (focus exact xx); (focus exact xx))
  refine wh_count s.length (fun i A L => A = [(0, .str s), (3, .int .i64 (i : Nat))] ∧ L = [] ∧ (s.take i).all low = true) ⟨rfl, rfl, by simp⟩ ?_
  rintro i A L hi ⟨rfl, rfl, ha⟩
  repeat' first | refine wh_seq ?_ | refine wh_skip ?_ | refine wh_block ?_ | refine wh_end ?_ | refine wh_exit ?_ | refine wh_ret ?_ | refine bk_norm ?_ | refine bk_exit ?_ | refine bk_ret ?_ | refine fr_exit ?_ | refine fr_ret ?_ | refine lp_exit ?_ | refine lp_ret ?_ | refine bk_other rfl ?_ | (apply wr; focus exact xx) | (apply wi; (focus exact xx); (focus exact xx); all_goals intro _; all_goals try first | contradiction | (exfalso; omega) | exact absurd trivial ‹_›) | refine wh_reg ?_ | refine wh_raw ?_ | (apply dr_fin; (focus exact xx)) | (apply dr_v; (focus exact xd)) | (apply dr_r; (focus exact xd)) | (apply dr_l; (focus exact RF.mk rfl); (focus exact RF.mk rfl); (focus exact RF.mk rfl); (focus exact RF.mk rfl); (focus exact RF.mk rfl)) | (apply dr_e; (focus exact RF.mk rfl); (focus exact RF.mk rfl); (focus exact RF.mk rfl); (focus exact RF.mk rfl)) | (apply rd_e; (focus exact xx); (focus exact xd)) | (apply rd_l; (focus exact xx)) | refine wh_ife ?_ | (apply re; focus exact xx) | (apply rf; (focus exact xx); (focus exact xx); all_goals intro _; all_goals try first | contradiction | (exfalso; omega) | exact absurd trivial ‹_›) | (apply ra; (focus exact xx); (focus exact xx); intro _) | (apply r1; (focus exact xx); (focus exact xx); intro _) | (apply rl; (focus exact xx); (focus exact xx); intro _) | (apply rb; (focus exact xx); (focus exact xx); intro _) | (apply rt; (focus exact xx); (focus exact xx)) | (apply rsi; (focus exact xx); (focus exact xx)) | (apply rsz; (focus exact xx); (focus exact xx)) | (apply rso; (focus exact xx); (focus exact xx)) | (apply rmm; (focus exact xx); intro _) | (apply ru; (focus exact xx); (focus exact xx)) | (apply rm; (focus exact xx); (focus exact xx); intro _) | (apply rk; (focus exact xx); (focus exact xx); intro _) | (apply rc; (focus exact xx); (focus exact xx)) | (apply rk'; (focus exact xx); (focus exact xx))
  · refine fz ?_
    rw [nameB, all_false (l := s) (i := i) (by omega) (by simp [low]; omega)]; simp
  · exact fr_next (by omega) sbc ⟨rfl, rfl, by rw [all_nth (by omega), ha]; simp [low]; omega⟩
  · refine fz ?_
    rw [show i = s.length by omega, List.take_length] at ha
    rw [nameB, ha]; refine vbool ?_; simp; omega⟩
def smallB (h : List (List Op)) (m : Int) : Bool := decide ((h.length : Int) ≤ m) && (decide ((h.flatten.length : Int) ≤ m) && h.flatten.all (fun o => decide (o.v.length ≤ 20)))
instance ref06_Small (h : List (List Op)) (m : Int) : PCon T0 n.ref06_Small [eH h, .int .i64 m] false (hb h) (.bool (smallB h m)) := ⟨fun b => by
  refine pc tabOk ?_
  have hl := b.2
  repeat' first | refine wh_seq ?_ | refine wh_skip ?_ | refine wh_block ?_ | refine wh_end ?_ | refine wh_exit ?_ | refine wh_ret ?_ | refine bk_norm ?_ | refine bk_exit ?_ | refine bk_ret ?_ | refine fr_exit ?_ | refine fr_ret ?_ | refine lp_exit ?_ | refine lp_ret ?_ | refine bk_other rfl ?_ | (apply wr; focus exact xx) | (apply wi; (focus exact xx); (focus exact xx); all_goals intro _; all_goals try first | contradiction | (exfalso; omega) | exact absurd trivial ‹_›) | refine wh_reg ?_ | refine wh_raw ?_ | (apply dr_fin; (focus exact xx)) | (apply dr_v; (focus exact xd)) | (apply dr_r; (focus exact xd)) | (apply dr_l; (focus exact RF.mk rfl); (focus exact RF.mk rfl); (focus exact RF.mk rfl); (focus exact RF.mk rfl); (focus exact RF.mk rfl)) | (apply dr_e; (focus exact RF.mk rfl); (focus exact RF.mk rfl); (focus exact RF.mk rfl); (focus exact RF.mk rfl)) | (apply rd_e; (focus exact xx); (focus exact xd)) | (apply rd_l; (focus exact xx)) | refine wh_ife ?_ | (apply re; focus exact xx) | (apply rf; (focus exact xx); (focus exact xx); all_goals intro _; all_goals try first | contradiction | (exfalso; omega) | exact absurd trivial ‹_›) | (apply ra; (focus exact xx); (focus exact xx); intro _) | (apply r1; (focus exact xx); (focus exact xx); intro _) | (apply rl; (focus exact xx); (focus exact xx); intro _) | (apply rb; (focus exact xx); (focus exact xx); intro _) | (apply rt; (focus exact xx); (focus exact xx)) | (apply rsi; (focus exact xx); (focus exact xx)) | (apply rsz; (focus exact xx); (focus exact xx)) | (apply rso; (focus exact xx); (focus exact xx)) | (apply rmm; (focus exact xx); intro _) | (apply ru; (focus exact xx); (focus exact xx)) | (apply rm; (focus exact xx); (focus exact xx); intro _) | (apply rk; (focus exact xx); (focus exact xx); intro _) | (apply rc; (focus exact xx); (focus exact xx)) | (apply rk'; (focus exact xx); (focus exact xx))
  · refine fz ?_
    simp [smallB]; omega
  generalize hf : h.flatten = l at *
  refine wh_count l.length (fun i A L => A = [(5, eOps l), (6, .int .i64 (i : Nat))] ∧ L = [] ∧ (l.take i).all (fun o => decide (o.v.length ≤ 20)) = true) ⟨rfl, rfl, by simp⟩ ?_
  rintro i A L hi ⟨rfl, rfl, ha⟩
  repeat' first | refine wh_seq ?_ | refine wh_skip ?_ | refine wh_block ?_ | refine wh_end ?_ | refine wh_exit ?_ | refine wh_ret ?_ | refine bk_norm ?_ | refine bk_exit ?_ | refine bk_ret ?_ | refine fr_exit ?_ | refine fr_ret ?_ | refine lp_exit ?_ | refine lp_ret ?_ | refine bk_other rfl ?_ | (apply wr; focus exact xx) | (apply wi; (focus exact xx); (focus exact xx); all_goals intro _; all_goals try first | contradiction | (exfalso; omega) | exact absurd trivial ‹_›) | refine wh_reg ?_ | refine wh_raw ?_ | (apply dr_fin; (focus exact xx)) | (apply dr_v; (focus exact xd)) | (apply dr_r; (focus exact xd)) | (apply dr_l; (focus exact RF.mk rfl); (focus exact RF.mk rfl); (focus exact RF.mk rfl); (focus exact RF.mk rfl); (focus exact RF.mk rfl)) | (apply dr_e; (focus exact RF.mk rfl); (focus exact RF.mk rfl); (focus exact RF.mk rfl); (focus exact RF.mk rfl)) | (apply rd_e; (focus exact xx); (focus exact xd)) | (apply rd_l; (focus exact xx)) | refine wh_ife ?_ | (apply re; focus exact xx) | (apply rf; (focus exact xx); (focus exact xx); all_goals intro _; all_goals try first | contradiction | (exfalso; omega) | exact absurd trivial ‹_›) | (apply ra; (focus exact xx); (focus exact xx); intro _) | (apply r1; (focus exact xx); (focus exact xx); intro _) | (apply rl; (focus exact xx); (focus exact xx); intro _) | (apply rb; (focus exact xx); (focus exact xx); intro _) | (apply rt; (focus exact xx); (focus exact xx)) | (apply rsi; (focus exact xx); (focus exact xx)) | (apply rsz; (focus exact xx); (focus exact xx)) | (apply rso; (focus exact xx); (focus exact xx)) | (apply rmm; (focus exact xx); intro _) | (apply ru; (focus exact xx); (focus exact xx)) | (apply rm; (focus exact xx); (focus exact xx); intro _) | (apply rk; (focus exact xx); (focus exact xx); intro _) | (apply rc; (focus exact xx); (focus exact xx)) | (apply rk'; (focus exact xx); (focus exact xx))
  · refine fz ?_
    rw [smallB, hf, all_false (l := l) (i := i) (by omega) (by simp; omega)]; simp
  · exact fr_next (by omega) sbc ⟨rfl, rfl, by rw [all_nth (by omega), ha]; simp; omega⟩
  · refine fz ?_
    rw [show i = l.length by omega, List.take_length] at ha
    rw [smallB, hf, ha]; simp; omega⟩
def rightB (h : List (List Op)) : Bool := h.flatten.all (fun o => nameB o.v) && decide (h.flatten.length ≤ 4096)
instance ref06_Right (h : List (List Op)) : PCon T0 n.ref06_Right [eH h] false (hb h ∧ ∀ o ∈ h.flatten, o.v.length ≤ 1048576) (.bool (rightB h)) := ⟨fun ⟨b, bn⟩ => by
  refine pc tabOk ?_
  have hl := b.2
  repeat' first | refine wh_seq ?_ | refine wh_skip ?_ | refine wh_block ?_ | refine wh_end ?_ | refine wh_exit ?_ | refine wh_ret ?_ | refine bk_norm ?_ | refine bk_exit ?_ | refine bk_ret ?_ | refine fr_exit ?_ | refine fr_ret ?_ | refine lp_exit ?_ | refine lp_ret ?_ | refine bk_other rfl ?_ | (apply wr; focus exact xx) | (apply wi; (focus exact xx); (focus exact xx); all_goals intro _; all_goals try first | contradiction | (exfalso; omega) | exact absurd trivial ‹_›) | refine wh_reg ?_ | refine wh_raw ?_ | (apply dr_fin; (focus exact xx)) | (apply dr_v; (focus exact xd)) | (apply dr_r; (focus exact xd)) | (apply dr_l; (focus exact RF.mk rfl); (focus exact RF.mk rfl); (focus exact RF.mk rfl); (focus exact RF.mk rfl); (focus exact RF.mk rfl)) | (apply dr_e; (focus exact RF.mk rfl); (focus exact RF.mk rfl); (focus exact RF.mk rfl); (focus exact RF.mk rfl)) | (apply rd_e; (focus exact xx); (focus exact xd)) | (apply rd_l; (focus exact xx)) | refine wh_ife ?_ | (apply re; focus exact xx) | (apply rf; (focus exact xx); (focus exact xx); all_goals intro _; all_goals try first | contradiction | (exfalso; omega) | exact absurd trivial ‹_›) | (apply ra; (focus exact xx); (focus exact xx); intro _) | (apply r1; (focus exact xx); (focus exact xx); intro _) | (apply rl; (focus exact xx); (focus exact xx); intro _) | (apply rb; (focus exact xx); (focus exact xx); intro _) | (apply rt; (focus exact xx); (focus exact xx)) | (apply rsi; (focus exact xx); (focus exact xx)) | (apply rsz; (focus exact xx); (focus exact xx)) | (apply rso; (focus exact xx); (focus exact xx)) | (apply rmm; (focus exact xx); intro _) | (apply ru; (focus exact xx); (focus exact xx)) | (apply rm; (focus exact xx); (focus exact xx); intro _) | (apply rk; (focus exact xx); (focus exact xx); intro _) | (apply rc; (focus exact xx); (focus exact xx)) | (apply rk'; (focus exact xx); (focus exact xx))
  unfold rightB
  generalize hf : h.flatten = l at *
  refine wh_count l.length (fun i A L => A = [(3, eOps l), (4, .int .i64 (i : Nat))] ∧ L = [] ∧ (l.take i).all (fun o => nameB o.v) = true) ⟨rfl, rfl, by simp⟩ ?_
  rintro i A L hi ⟨rfl, rfl, ha⟩
  have hn : i < l.length → (nth l i).v.length ≤ 1048576 := fun h => bn _ (by rw [nth_eq h]; exact List.getElem_mem h)
  repeat' first | refine wh_seq ?_ | refine wh_skip ?_ | refine wh_block ?_ | refine wh_end ?_ | refine wh_exit ?_ | refine wh_ret ?_ | refine bk_norm ?_ | refine bk_exit ?_ | refine bk_ret ?_ | refine fr_exit ?_ | refine fr_ret ?_ | refine lp_exit ?_ | refine lp_ret ?_ | refine bk_other rfl ?_ | (apply wr; focus exact xx) | (apply wi; (focus exact xx); (focus exact xx); all_goals intro _; all_goals try first | contradiction | (exfalso; omega) | exact absurd trivial ‹_›) | refine wh_reg ?_ | refine wh_raw ?_ | (apply dr_fin; (focus exact xx)) | (apply dr_v; (focus exact xd)) | (apply dr_r; (focus exact xd)) | (apply dr_l; (focus exact RF.mk rfl); (focus exact RF.mk rfl); (focus exact RF.mk rfl); (focus exact RF.mk rfl); (focus exact RF.mk rfl)) | (apply dr_e; (focus exact RF.mk rfl); (focus exact RF.mk rfl); (focus exact RF.mk rfl); (focus exact RF.mk rfl)) | (apply rd_e; (focus exact xx); (focus exact xd)) | (apply rd_l; (focus exact xx)) | refine wh_ife ?_ | (apply re; focus exact xx) | (apply rf; (focus exact xx); (focus exact xx); all_goals intro _; all_goals try first | contradiction | (exfalso; omega) | exact absurd trivial ‹_›) | (apply ra; (focus exact xx); (focus exact xx); intro _) | (apply r1; (focus exact xx); (focus exact xx); intro _) | (apply rl; (focus exact xx); (focus exact xx); intro _) | (apply rb; (focus exact xx); (focus exact xx); intro _) | (apply rt; (focus exact xx); (focus exact xx)) | (apply rsi; (focus exact xx); (focus exact xx)) | (apply rsz; (focus exact xx); (focus exact xx)) | (apply rso; (focus exact xx); (focus exact xx)) | (apply rmm; (focus exact xx); intro _) | (apply ru; (focus exact xx); (focus exact xx)) | (apply rm; (focus exact xx); (focus exact xx); intro _) | (apply rk; (focus exact xx); (focus exact xx); intro _) | (apply rc; (focus exact xx); (focus exact xx)) | (apply rk'; (focus exact xx); (focus exact xx))
  · refine fz ?_
    rename_i h1 h2
    rw [all_false (l := l) (i := i) (by omega) (by simpa using h2)]; simp
  · rename_i h1 h2
    exact fr_next (by omega) sbc ⟨rfl, rfl, by rw [all_nth (by omega), ha]; simpa using h2⟩
  · refine fz ?_
    rw [show i = l.length by omega, List.take_length] at ha
    rw [ha]; simp; omega⟩
end Go.AM

set_option linter.unusedVariables false
set_option linter.unusedSimpArgs false
namespace Go.AM
/-! strings.Trim, with cutsets of plain letters. -/
def bitV (p : Nat → Bool) : V := .agg ((List.range 256).map fun j => .bool (p j))
def cutL (p : UInt8 → Bool) (s : List UInt8) : List UInt8 := s.dropWhile p
def cutR (p : UInt8 → Bool) (s : List UInt8) : List UInt8 := (s.reverse.dropWhile p).reverse
section
variable {p : Nat → Bool} {id : Nat} {L : List HE}
theorem set_at {j : Nat} (h : j < 256) : (bitV p).cells[j]? = some (.bool (p j)) := by
  simp [bitV, V.cells, h]
theorem bit_len : (bitV p).cells.length = 256 := by simp [bitV, V.cells]
theorem rep_range (n : Nat) (b : V) : List.replicate n b = (List.range n).map fun _ => b := by simp [List.map_const']
theorem bit_0 : V.agg (List.replicate 256 (.bool false)) = bitV (fun _ => false) := by rw [rep_range]; rfl
theorem put_set (l : List V) {c : Nat} (h : c < l.length) (x : V) : l.take c ++ [x] ++ l.drop (c + 1) = l.set c x := by
  rw [List.set_eq_take_append_cons_drop, if_pos h]; simp
theorem put_bit {c : Nat} (h : c < 256) : (bitV p).putAt (.bool true) (0 + ((c : Nat) : Int).toNat * 1) = bitV (fun j => p j || j == c) := by
  simp only [bitV, V.putAt, setCells, Nat.zero_add, Nat.mul_one, Int.toNat_natCast, V.cells, V.agg.injEq, List.length_cons, List.length_nil]
  rw [put_set _ (by simp; exact h)]
  apply List.ext_getElem
  · simp
  · intro j h1 h2
    rw [List.getElem_set]
    by_cases he : c = j
    · subst he; simp
    · have : (j == c) = false := by simp; omega
      simp [he, this]
theorem put_all : (V.agg (List.replicate 256 (.bool false))).putAt (bitV p) 0 = bitV p := by
  rw [bit_0]; simp [bitV, V.putAt, setCells, V.cells]
theorem bit_flat : (bitV p).cells.all V.flat1 = true ∧ (bitV p).cells.all V.sc = true := by
  simp [bitV, V.cells, V.flat1, V.sc]
attribute [irreducible] bitV
theorem contains_rc (hm : Mem (.ob id (.row 256 true [bitV p])) L) (c : UInt8) : RC T0 L n.strings_asciiSet__contains [.ptr id 256 0 0, .int .u8 (c.toNat : Nat)] (.bool (p c.toNat)) := by
  have hc := c.toNat_lt
  have hp : PT ⟨false, 1⟩ (bitV p).cells (0 + ((c.toNat : Nat) : Int).toNat * 1) (.bool (p c.toNat)) := ⟨by
    simp only [part, Bool.false_eq_true, if_false]
    rw [Nat.zero_add, Nat.mul_one, Int.toNat_natCast, set_at (by omega)]⟩
  refine rw' tabOk ?_
  refine wh_seq ?_
  (apply wr; focus exact xx)
  refine wh_seq ?_
  apply wr
  · apply AR.mk
    · apply ev_cons
      · apply e_lp
        · apply q_2
          · exact xx
          · exact xx
          · exact p_iar ⟨by omega⟩
        · apply d_p
          · assumption
          · exact XI.mk rfl
          · exact hp
      · exact ev_nil
    · exact xx
    · exact xx
  repeat' first | refine wh_seq ?_ | refine wh_skip ?_ | refine wh_block ?_ | refine wh_end ?_ | refine wh_exit ?_ | refine wh_ret ?_ | refine bk_norm ?_ | refine bk_exit ?_ | refine bk_ret ?_ | refine fr_exit ?_ | refine fr_ret ?_ | refine lp_exit ?_ | refine lp_ret ?_ | refine bk_other rfl ?_ | (apply wr; focus exact xx) | (apply wi; (focus exact xx); (focus exact xx); all_goals intro _; all_goals try first | contradiction | (exfalso; omega) | exact absurd trivial ‹_›) | refine wh_reg ?_ | refine wh_raw ?_ | (apply dr_fin; (focus exact xx)) | (apply dr_v; (focus exact xd)) | (apply dr_r; (focus exact xd)) | (apply dr_l; (focus exact RF.mk rfl); (focus exact RF.mk rfl); (focus exact RF.mk rfl); (focus exact RF.mk rfl); (focus exact RF.mk rfl)) | (apply dr_e; (focus exact RF.mk rfl); (focus exact RF.mk rfl); (focus exact RF.mk rfl); (focus exact RF.mk rfl)) | (apply rd_e; (focus exact xx); (focus exact xd)) | (apply rd_l; (focus exact xx)) | refine wh_ife ?_ | (apply re; focus exact xx) | (apply rf; (focus exact xx); (focus exact xx); all_goals intro _; all_goals try first | contradiction | (exfalso; omega) | exact absurd trivial ‹_›) | (apply ra; (focus exact xx); (focus exact xx); intro _) | (apply r1; (focus exact xx); (focus exact xx); intro _) | (apply rl; (focus exact xx); (focus exact xx); intro _) | (apply rb; (focus exact xx); (focus exact xx); intro _) | (apply rt; (focus exact xx); (focus exact xx)) | (apply rsi; (focus exact xx); (focus exact xx)) | (apply rsz; (focus exact xx); (focus exact xx)) | (apply rso; (focus exact xx); (focus exact xx)) | (apply rmm; (focus exact xx); intro _) | (apply ru; (focus exact xx); (focus exact xx)) | (apply rm; (focus exact xx); (focus exact xx); intro _) | (apply rk; (focus exact xx); (focus exact xx); intro _) | (apply rc; (focus exact xx); (focus exact xx)) | (apply rk'; (focus exact xx); (focus exact xx))
  exact fw rfl
theorem drop_while {q : UInt8 → Bool} {t : List UInt8} (h : 0 < t.length) (hq : q (nth t 0) = true) : (t.drop 1).dropWhile q = t.dropWhile q := by
  cases t with
  | nil => cases h
  | cons c r => simp only [List.drop_succ_cons, List.drop_zero]; rw [List.dropWhile_cons_of_pos (by simpa [nth] using hq)]
theorem stop_while {q : UInt8 → Bool} {t : List UInt8} (h : t.length = 0 ∨ q (nth t 0) = false) : t.dropWhile q = t := by
  cases t with
  | nil => rfl
  | cons c r => rw [List.dropWhile_cons_of_neg (by rcases h with h | h <;> simp_all [nth])]
theorem trimL_rc (hm : Mem (.ob id (.row 256 true [bitV p])) L) (s : List UInt8) (hs : s.length ≤ 1048576) : RC T0 L n.strings_trimLeftASCII [.str s, .ptr id 256 0 0] (.str (cutL (fun c => p c.toNat) s)) := by
  refine rw' tabOk ?_
  repeat' first | refine wh_seq ?_ | refine wh_skip ?_ | refine wh_block ?_ | refine wh_end ?_ | refine wh_exit ?_ | refine wh_ret ?_ | refine bk_norm ?_ | refine bk_exit ?_ | refine bk_ret ?_ | refine fr_exit ?_ | refine fr_ret ?_ | refine lp_exit ?_ | refine lp_ret ?_ | refine bk_other rfl ?_ | (apply wr; focus exact xx) | (apply wi; (focus exact xx); (focus exact xx); all_goals intro _; all_goals try first | contradiction | (exfalso; omega) | exact absurd trivial ‹_›) | refine wh_reg ?_ | refine wh_raw ?_ | (apply dr_fin; (focus exact xx)) | (apply dr_v; (focus exact xd)) | (apply dr_r; (focus exact xd)) | (apply dr_l; (focus exact RF.mk rfl); (focus exact RF.mk rfl); (focus exact RF.mk rfl); (focus exact RF.mk rfl); (focus exact RF.mk rfl)) | (apply dr_e; (focus exact RF.mk rfl); (focus exact RF.mk rfl); (focus exact RF.mk rfl); (focus exact RF.mk rfl)) | (apply rd_e; (focus exact xx); (focus exact xd)) | (apply rd_l; (focus exact xx)) | refine wh_ife ?_ | (apply re; focus exact xx) | (apply rf; (focus exact xx); (focus exact xx); all_goals intro _; all_goals try first | contradiction | (exfalso; omega) | exact absurd trivial ‹_›) | (apply ra; (focus exact xx); (focus exact xx); intro _) | (apply r1; (focus exact xx); (focus exact xx); intro _) | (apply rl; (focus exact xx); (focus exact xx); intro _) | (apply rb; (focus exact xx); (focus exact xx); intro _) | (apply rt; (focus exact xx); (focus exact xx)) | (apply rsi; (focus exact xx); (focus exact xx)) | (apply rsz; (focus exact xx); (focus exact xx)) | (apply rso; (focus exact xx); (focus exact xx)) | (apply rmm; (focus exact xx); intro _) | (apply ru; (focus exact xx); (focus exact xx)) | (apply rm; (focus exact xx); (focus exact xx); intro _) | (apply rk; (focus exact xx); (focus exact xx); intro _) | (apply rc; (focus exact xx); (focus exact xx)) | (apply rk'; (focus exact xx); (focus exact xx))
  refine wh_loop (fun m A L' => ∃ t, m = t.length ∧ t.length ≤ s.length ∧ A = [(0, .str t), (1, .ptr id 256 0 0)] ∧ L' = L ∧ t.dropWhile (fun c => p c.toNat) = s.dropWhile (fun c => p c.toNat)) s.length ⟨s, rfl, by omega, rfl, rfl, rfl⟩ ?_
  rintro m A L' ⟨t, rfl, ht, rfl, rfl, he⟩
  have hc := fun c => contains_rc hm c
  repeat' first | refine wh_seq ?_ | refine wh_skip ?_ | refine wh_block ?_ | refine wh_end ?_ | refine wh_exit ?_ | refine wh_ret ?_ | refine bk_norm ?_ | refine bk_exit ?_ | refine bk_ret ?_ | refine fr_exit ?_ | refine fr_ret ?_ | refine lp_exit ?_ | refine lp_ret ?_ | refine bk_other rfl ?_ | (apply wr; focus exact xx) | (apply wi; (focus exact xx); (focus exact xx); all_goals intro _; all_goals try first | contradiction | (exfalso; omega) | exact absurd trivial ‹_›) | refine wh_reg ?_ | refine wh_raw ?_ | (apply dr_fin; (focus exact xx)) | (apply dr_v; (focus exact xd)) | (apply dr_r; (focus exact xd)) | (apply dr_l; (focus exact RF.mk rfl); (focus exact RF.mk rfl); (focus exact RF.mk rfl); (focus exact RF.mk rfl); (focus exact RF.mk rfl)) | (apply dr_e; (focus exact RF.mk rfl); (focus exact RF.mk rfl); (focus exact RF.mk rfl); (focus exact RF.mk rfl)) | (apply rd_e; (focus exact xx); (focus exact xd)) | (apply rd_l; (focus exact xx)) | refine wh_ife ?_ | (apply re; focus exact xx) | (apply rf; (focus exact xx); (focus exact xx); all_goals intro _; all_goals try first | contradiction | (exfalso; omega) | exact absurd trivial ‹_›) | (apply ra; (focus exact xx); (focus exact xx); intro _) | (apply r1; (focus exact xx); (focus exact xx); intro _) | (apply rl; (focus exact xx); (focus exact xx); intro _) | (apply rb; (focus exact xx); (focus exact xx); intro _) | (apply rt; (focus exact xx); (focus exact xx)) | (apply rsi; (focus exact xx); (focus exact xx)) | (apply rsz; (focus exact xx); (focus exact xx)) | (apply rso; (focus exact xx); (focus exact xx)) | (apply rmm; (focus exact xx); intro _) | (apply ru; (focus exact xx); (focus exact xx)) | (apply rm; (focus exact xx); (focus exact xx); intro _) | (apply rk; (focus exact xx); (focus exact xx); intro _) | (apply rc; (focus exact xx); (focus exact xx)) | (apply rk'; (focus exact xx); (focus exact xx))
  · rename_i h1 h2
    exact fw (by rw [cutL, ← he, stop_while (.inr (by simpa using h2))])
  · rename_i h1 h2
    exact ⟨_, _, by simp; omega, sbc, _, rfl, by simp; omega, rfl, rfl, by rw [← he]; exact drop_while (by omega) (by simpa using h2)⟩
  · exact fw (by rw [cutL, ← he, stop_while (.inl (by omega))])
theorem nth_last {t : List UInt8} {n : Nat} (h : n + 1 = t.length) : nth t n = nth t.reverse 0 := by
  rw [nth_eq (by omega), nth_eq (by simp; omega), List.getElem_reverse]
  congr 1; omega
theorem take_rev {t : List UInt8} : t.take (t.length - 1) = (t.reverse.drop 1).reverse := by
  rw [List.drop_reverse, List.reverse_reverse]
theorem trimR_rc (hm : Mem (.ob id (.row 256 true [bitV p])) L) (s : List UInt8) (hs : s.length ≤ 1048576) : RC T0 L n.strings_trimRightASCII [.str s, .ptr id 256 0 0] (.str (cutR (fun c => p c.toNat) s)) := by
  refine rw' tabOk ?_
  repeat' first | refine wh_seq ?_ | refine wh_skip ?_ | refine wh_block ?_ | refine wh_end ?_ | refine wh_exit ?_ | refine wh_ret ?_ | refine bk_norm ?_ | refine bk_exit ?_ | refine bk_ret ?_ | refine fr_exit ?_ | refine fr_ret ?_ | refine lp_exit ?_ | refine lp_ret ?_ | refine bk_other rfl ?_ | (apply wr; focus exact xx) | (apply wi; (focus exact xx); (focus exact xx); all_goals intro _; all_goals try first | contradiction | (exfalso; omega) | exact absurd trivial ‹_›) | refine wh_reg ?_ | refine wh_raw ?_ | (apply dr_fin; (focus exact xx)) | (apply dr_v; (focus exact xd)) | (apply dr_r; (focus exact xd)) | (apply dr_l; (focus exact RF.mk rfl); (focus exact RF.mk rfl); (focus exact RF.mk rfl); (focus exact RF.mk rfl); (focus exact RF.mk rfl)) | (apply dr_e; (focus exact RF.mk rfl); (focus exact RF.mk rfl); (focus exact RF.mk rfl); (focus exact RF.mk rfl)) | (apply rd_e; (focus exact xx); (focus exact xd)) | (apply rd_l; (focus exact xx)) | refine wh_ife ?_ | (apply re; focus exact xx) | (apply rf; (focus exact xx); (focus exact xx); all_goals intro _; all_goals try first | contradiction | (exfalso; omega) | exact absurd trivial ‹_›) | (apply ra; (focus exact xx); (focus exact xx); intro _) | (apply r1; (focus exact xx); (focus exact xx); intro _) | (apply rl; (focus exact xx); (focus exact xx); intro _) | (apply rb; (focus exact xx); (focus exact xx); intro _) | (apply rt; (focus exact xx); (focus exact xx)) | (apply rsi; (focus exact xx); (focus exact xx)) | (apply rsz; (focus exact xx); (focus exact xx)) | (apply rso; (focus exact xx); (focus exact xx)) | (apply rmm; (focus exact xx); intro _) | (apply ru; (focus exact xx); (focus exact xx)) | (apply rm; (focus exact xx); (focus exact xx); intro _) | (apply rk; (focus exact xx); (focus exact xx); intro _) | (apply rc; (focus exact xx); (focus exact xx)) | (apply rk'; (focus exact xx); (focus exact xx))
  refine wh_loop (fun m A L' => ∃ t, m = t.length ∧ t.length ≤ s.length ∧ A = [(0, .str t), (1, .ptr id 256 0 0)] ∧ L' = L ∧ t.reverse.dropWhile (fun c => p c.toNat) = s.reverse.dropWhile (fun c => p c.toNat)) s.length ⟨s, rfl, by omega, rfl, rfl, rfl⟩ ?_
  rintro m A L' ⟨t, rfl, ht, rfl, rfl, he⟩
  have hc := fun c => contains_rc hm c
  have hx : 0 < (t.length : Int) → nth t ((t.length : Int) - 1).toNat = nth t.reverse 0 := fun h => nth_last (by clear he; omega)
  repeat' first | refine wh_seq ?_ | refine wh_skip ?_ | refine wh_block ?_ | refine wh_end ?_ | refine wh_exit ?_ | refine wh_ret ?_ | refine bk_norm ?_ | refine bk_exit ?_ | refine bk_ret ?_ | refine fr_exit ?_ | refine fr_ret ?_ | refine lp_exit ?_ | refine lp_ret ?_ | refine bk_other rfl ?_ | (apply wr; focus exact xx) | (apply wi; (focus exact xx); (focus exact xx); all_goals intro _; all_goals try first | contradiction | (exfalso; omega) | exact absurd trivial ‹_›) | refine wh_reg ?_ | refine wh_raw ?_ | (apply dr_fin; (focus exact xx)) | (apply dr_v; (focus exact xd)) | (apply dr_r; (focus exact xd)) | (apply dr_l; (focus exact RF.mk rfl); (focus exact RF.mk rfl); (focus exact RF.mk rfl); (focus exact RF.mk rfl); (focus exact RF.mk rfl)) | (apply dr_e; (focus exact RF.mk rfl); (focus exact RF.mk rfl); (focus exact RF.mk rfl); (focus exact RF.mk rfl)) | (apply rd_e; (focus exact xx); (focus exact xd)) | (apply rd_l; (focus exact xx)) | refine wh_ife ?_ | (apply re; focus exact xx) | (apply rf; (focus exact xx); (focus exact xx); all_goals intro _; all_goals try first | contradiction | (exfalso; omega) | exact absurd trivial ‹_›) | (apply ra; (focus exact xx); (focus exact xx); intro _) | (apply r1; (focus exact xx); (focus exact xx); intro _) | (apply rl; (focus exact xx); (focus exact xx); intro _) | (apply rb; (focus exact xx); (focus exact xx); intro _) | (apply rt; (focus exact xx); (focus exact xx)) | (apply rsi; (focus exact xx); (focus exact xx)) | (apply rsz; (focus exact xx); (focus exact xx)) | (apply rso; (focus exact xx); (focus exact xx)) | (apply rmm; (focus exact xx); intro _) | (apply ru; (focus exact xx); (focus exact xx)) | (apply rm; (focus exact xx); (focus exact xx); intro _) | (apply rk; (focus exact xx); (focus exact xx); intro _) | (apply rc; (focus exact xx); (focus exact xx)) | (apply rk'; (focus exact xx); (focus exact xx))
  · rename_i h1 h2
    rw [hx h1] at h2
    exact fw (by rw [cutR, ← he, stop_while (.inr (by simpa using h2)), List.reverse_reverse])
  · rename_i h1 h2
    rw [hx h1] at h2
    rw [show ((t.length : Int) - 1).toNat = t.length - 1 by omega]
    exact ⟨_, _, by simp; omega, sbc, _, rfl, by simp; omega, rfl, rfl, by rw [← he, take_rev, List.reverse_reverse]; exact drop_while (by simp; omega) (by simpa using h2)⟩
  · exact fw (by rw [cutR, ← he, stop_while (.inl (by rw [List.length_reverse]; omega)), List.reverse_reverse])
theorem ok256 : RF (okEl 256 true (V.agg (List.replicate 256 (.bool false))) = true) := ⟨by
  rw [bit_0]; simp only [okEl, bit_len, bit_flat.1, bit_flat.2]; rfl⟩
theorem stc_bit {c : Nat} (h : c < 256) : StC (.bool true) 1 (0 + ((c : Nat) : Int).toNat * 1) 256 true := ⟨by
  simp only [V.cells, List.length_cons, List.length_nil, List.all_cons, List.all_nil, V.sc, V.flat1, Int.toNat_natCast, Nat.zero_add, Nat.mul_one]
  have : Nat.ble (c + 1) 256 = true := by rw [Nat.ble_eq]; omega
  rw [this]; rfl⟩
theorem stc_all : StC (bitV p) 256 0 256 true := ⟨by
  rw [bit_len, bit_flat.1, bit_flat.2]; rfl⟩
theorem bit_isD : (bitV p).isD = true := by
  unfold bitV; simp [V.isD, V.dsc]
def inB (cs : List UInt8) (j : Nat) : Bool := (cs.map (·.toNat)).contains j
theorem pt_all : PT ⟨true, 256⟩ (bitV p).cells 0 (bitV p) := ⟨by
  simp only [part, bit_len, if_true, Nat.zero_add, Nat.le_refl, List.drop_zero]
  rw [List.take_of_length_le (by rw [bit_len]; omega)]
  unfold bitV; rfl⟩
theorem stn_bit {c : Nat} (h : c < 256) : StN [bitV p] 0 (bitV p) (.bool true) (0 + ((c : Nat) : Int).toNat * 1) [bitV (fun j => p j || j == c)] := ⟨by rw [put_bit h]; rfl⟩
theorem stn_same {q : Nat → Bool} : StN [bitV q] 0 (bitV q) (bitV p) 0 [bitV p] := ⟨by
  have : (bitV q).putAt (bitV p) 0 = bitV p := by
    have h1 := @bit_len p; have h2 := @bit_len q
    unfold bitV at h1 h2 ⊢
    simp only [V.cells] at h1 h2
    simp only [V.putAt, setCells, V.cells, List.take_zero, List.nil_append, V.agg.injEq]
    rw [h1, List.drop_eq_nil_of_le (by rw [h2]; omega), List.append_nil]
  rw [this]; rfl⟩
set_option maxRecDepth 100000 in
instance makeSet (cs : List UInt8) : PCon T0 n.strings_makeASCIISet [.str cs] true (cs.length ≤ 1000 ∧ ∀ c ∈ cs, c.toNat < 128) (.tup [bitV (inB cs), .bool true]) := ⟨fun ⟨hl, ha⟩ => by
  have h1 := ok256
  refine pc tabOk ?_
  repeat' first | refine wh_seq ?_ | refine wh_skip ?_ | refine wh_block ?_ | refine wh_end ?_ | refine wh_exit ?_ | refine wh_ret ?_ | refine bk_norm ?_ | refine bk_exit ?_ | refine bk_ret ?_ | refine fr_exit ?_ | refine fr_ret ?_ | refine lp_exit ?_ | refine lp_ret ?_ | refine bk_other rfl ?_ | (apply wr; focus exact xx) | (apply wi; (focus exact xx); (focus exact xx); all_goals intro _; all_goals try first | contradiction | (exfalso; omega) | exact absurd trivial ‹_›) | refine wh_reg ?_ | refine wh_raw ?_ | (apply dr_fin; (focus exact xx)) | (apply dr_v; (focus exact xd)) | (apply dr_r; (focus exact xd)) | (apply dr_l; (focus exact RF.mk rfl); (focus exact RF.mk rfl); (focus exact RF.mk rfl); (focus exact RF.mk rfl); (focus exact RF.mk rfl)) | (apply dr_e; (focus exact RF.mk rfl); (focus exact RF.mk rfl); (focus exact RF.mk rfl); (focus exact RF.mk rfl)) | (apply rd_e; (focus exact xx); (focus exact xd)) | (apply rd_l; (focus exact xx)) | refine wh_ife ?_ | (apply re; focus exact xx) | (apply rf; (focus exact xx); (focus exact xx); all_goals intro _; all_goals try first | contradiction | (exfalso; omega) | exact absurd trivial ‹_›) | (apply ra; (focus exact xx); (focus exact xx); intro _) | (apply r1; (focus exact xx); (focus exact xx); intro _) | (apply rl; (focus exact xx); (focus exact xx); intro _) | (apply rb; (focus exact xx); (focus exact xx); intro _) | (apply rt; (focus exact xx); (focus exact xx)) | (apply rsi; (focus exact xx); (focus exact xx)) | (apply rsz; (focus exact xx); (focus exact xx)) | (apply rso; (focus exact xx); (focus exact xx)) | (apply rmm; (focus exact xx); intro _) | (apply ru; (focus exact xx); (focus exact xx)) | (apply rm; (focus exact xx); (focus exact xx); intro _) | (apply rk; (focus exact xx); (focus exact xx); intro _) | (apply rc; (focus exact xx); (focus exact xx)) | (apply rk'; (focus exact xx); (focus exact xx))
  rename_i id
  refine wh_count cs.length (fun i A L => A = [(0, .str cs), (2, .ptr id 256 0 0), (4, .int .i64 (i : Nat))] ∧ L = [.ob id (.row 256 true [bitV (inB (cs.take i))])]) ⟨rfl, by rw [bit_0]; rfl⟩ ?_
  rintro i A L hi ⟨rfl, rfl⟩
  have hp := @pt_all (inB (cs.take i))
  have h2 := (nth cs i).toNat_lt
  have h3 : i < cs.length → (nth cs i).toNat < 128 := fun h => ha _ (by rw [nth_eq h]; exact List.getElem_mem h)
  have h4 := stc_bit h2
  have h5 := @stn_bit (inB (cs.take i)) _ h2
  have h6 := @stc_all (inB (cs.take i))
  have h7 := @stn_same (inB (cs.take i)) (inB (cs.take i))
  repeat' first | refine wh_seq ?_ | refine wh_skip ?_ | refine wh_block ?_ | refine wh_end ?_ | refine wh_exit ?_ | refine wh_ret ?_ | refine bk_norm ?_ | refine bk_exit ?_ | refine bk_ret ?_ | refine fr_exit ?_ | refine fr_ret ?_ | refine lp_exit ?_ | refine lp_ret ?_ | refine bk_other rfl ?_ | (apply wr; focus exact xx) | (apply wi; (focus exact xx); (focus exact xx); all_goals intro _; all_goals try first | contradiction | (exfalso; omega) | exact absurd trivial ‹_›) | refine wh_reg ?_ | refine wh_raw ?_ | (apply dr_fin; (focus exact xx)) | (apply dr_v; (focus exact xd)) | (apply dr_r; (focus exact xd)) | (apply dr_l; (focus exact RF.mk rfl); (focus exact RF.mk rfl); (focus exact RF.mk rfl); (focus exact RF.mk rfl); (focus exact RF.mk rfl)) | (apply dr_e; (focus exact RF.mk rfl); (focus exact RF.mk rfl); (focus exact RF.mk rfl); (focus exact RF.mk rfl)) | (apply rd_e; (focus exact xx); (focus exact xd)) | (apply rd_l; (focus exact xx)) | refine wh_ife ?_ | (apply re; focus exact xx) | (apply rf; (focus exact xx); (focus exact xx); all_goals intro _; all_goals try first | contradiction | (exfalso; omega) | exact absurd trivial ‹_›) | (apply ra; (focus exact xx); (focus exact xx); intro _) | (apply r1; (focus exact xx); (focus exact xx); intro _) | (apply rl; (focus exact xx); (focus exact xx); intro _) | (apply rb; (focus exact xx); (focus exact xx); intro _) | (apply rt; (focus exact xx); (focus exact xx)) | (apply rsi; (focus exact xx); (focus exact xx)) | (apply rsz; (focus exact xx); (focus exact xx)) | (apply rso; (focus exact xx); (focus exact xx)) | (apply rmm; (focus exact xx); intro _) | (apply ru; (focus exact xx); (focus exact xx)) | (apply rm; (focus exact xx); (focus exact xx); intro _) | (apply rk; (focus exact xx); (focus exact xx); intro _) | (apply rc; (focus exact xx); (focus exact xx)) | (apply rk'; (focus exact xx); (focus exact xx))
  · refine fr_next (by omega) sbc ⟨rfl, ?_⟩
    rw [take_nth (by omega)]
    congr 5
    funext j
    simp only [inB, List.map_append, List.map_cons, List.map_nil]
    rw [Bool.eq_iff_iff]
    simp [or_comm]
  · obtain rfl : i = cs.length := by omega
    rw [List.take_length] at *
    exact fz (hd := FG.froz (dp_tup (dps_cons (dp_d bit_isD) (dps_cons (dp_d rfl) dps_nil)))) rfl⟩
def trimB (p : UInt8 → Bool) (s : List UInt8) : List UInt8 := cutL p (cutR p s)
theorem inB_mem (cs : List UInt8) (c : UInt8) : inB cs c.toNat = cs.contains c := by
  rw [Bool.eq_iff_iff]; simp [inB, UInt8.toNat_inj]
set_option maxRecDepth 100000 in
instance trim (s cs : List UInt8) : PCon T0 n.strings_Trim [.str s, .str cs] false (s.length ≤ 1048576 ∧ 2 ≤ cs.length ∧ cs.length ≤ 1000 ∧ ∀ c ∈ cs, c.toNat < 128) (.str (trimB (fun c => cs.contains c) s)) := ⟨fun ⟨hs, h2, hl, ha⟩ => by
  have h1 := ok256
  have ha' : cs.length ≤ 1000 ∧ ∀ c ∈ cs, c.toNat < 128 := ⟨hl, ha⟩
  have h6 := @stc_all (inB cs)
  have h7 : StN [V.agg (List.replicate 256 (.bool false))] 0 (V.agg (List.replicate 256 (.bool false))) (bitV (inB cs)) 0 [bitV (inB cs)] := ⟨by rw [put_all]; rfl⟩
  have h8 : RF ((bitV (inB cs)).known = true) := ⟨by unfold bitV; rfl⟩
  have hR := fun id => trimR_rc (L := [HE.ob id (.row 256 true [bitV (inB cs)])]) m_here s hs
  have hc : (cutR (fun c => inB cs c.toNat) s).length ≤ 1048576 := by
    have : (cutR (fun c => inB cs c.toNat) s).length ≤ s.length := by
      rw [cutR, List.length_reverse]
      have := (List.dropWhile_sublist (fun c : UInt8 => inB cs c.toNat) (l := s.reverse)).length_le
      simpa using this
    omega
  have hL := fun id => trimL_rc (L := [HE.ob id (.row 256 true [bitV (inB cs)])]) m_here _ hc
  refine pc tabOk ?_
  repeat' first | refine wh_seq ?_ | refine wh_skip ?_ | refine wh_block ?_ | refine wh_end ?_ | refine wh_exit ?_ | refine wh_ret ?_ | refine bk_norm ?_ | refine bk_exit ?_ | refine bk_ret ?_ | refine fr_exit ?_ | refine fr_ret ?_ | refine lp_exit ?_ | refine lp_ret ?_ | refine bk_other rfl ?_ | (apply wr; focus exact xx) | (apply wi; (focus exact xx); (focus exact xx); all_goals intro _; all_goals try first | contradiction | (exfalso; omega) | exact absurd trivial ‹_›) | refine wh_reg ?_ | refine wh_raw ?_ | (apply dr_fin; (focus exact xx)) | (apply dr_v; (focus exact xd)) | (apply dr_r; (focus exact xd)) | (apply dr_l; (focus exact RF.mk rfl); (focus exact RF.mk rfl); (focus exact RF.mk rfl); (focus exact RF.mk rfl); (focus exact RF.mk rfl)) | (apply dr_e; (focus exact RF.mk rfl); (focus exact RF.mk rfl); (focus exact RF.mk rfl); (focus exact RF.mk rfl)) | (apply rd_e; (focus exact xx); (focus exact xd)) | (apply rd_l; (focus exact xx)) | refine wh_ife ?_ | (apply re; focus exact xx) | (apply rf; (focus exact xx); (focus exact xx); all_goals intro _; all_goals try first | contradiction | (exfalso; omega) | exact absurd trivial ‹_›) | (apply ra; (focus exact xx); (focus exact xx); intro _) | (apply r1; (focus exact xx); (focus exact xx); intro _) | (apply rl; (focus exact xx); (focus exact xx); intro _) | (apply rb; (focus exact xx); (focus exact xx); intro _) | (apply rt; (focus exact xx); (focus exact xx)) | (apply rsi; (focus exact xx); (focus exact xx)) | (apply rsz; (focus exact xx); (focus exact xx)) | (apply rso; (focus exact xx); (focus exact xx)) | (apply rmm; (focus exact xx); intro _) | (apply ru; (focus exact xx); (focus exact xx)) | (apply rm; (focus exact xx); (focus exact xx); intro _) | (apply rk; (focus exact xx); (focus exact xx); intro _) | (apply rc; (focus exact xx); (focus exact xx)) | (apply rk'; (focus exact xx); (focus exact xx))
  · rename_i h
    refine fz ?_
    simp only [decide_eq_true_eq] at h
    rcases h with h | h
    · rw [h]; rfl
    · rw [h] at h2; simp at h2
  · refine fz ?_
    simp only [trimB, inB_mem]⟩
end
end Go.AM

set_option linter.unusedVariables false
set_option linter.unusedSimpArgs false
namespace Go.AM
attribute [-simp] List.length_flatten List.map_flatten List.map_take List.map_map List.flatten_append
instance grow_i (k : Nat) : CEI T0 n.slices_Grow___api_Op_api_Op [.nil, .int .i64 (k : Nat)] (k < 4398046511104) (fun L v L' => ∃ g : Hd, v = g.v ∧ L' = .own g 3 true [] :: L) := ⟨fun hk L H hp => by
  by_cases h : k = 0
  · subst h
    exact ⟨.nil, H, _, rowX (g := gGrow) rfl rfl, hp.more (e := .own .nil 3 true []) (fun _ _ => rfl) (.inl ⟨rfl, rfl⟩) (by simp [HE.ids, Hd.ids]) own_nd, .nil, rfl, rfl⟩
  · refine ⟨.ref H.length 3 0 0, H ++ [.row 3 true []], _, rowX (g := gGrow) rfl ?_, hp.more (e := .own (.ref H.length 3 0) 3 true []) (fun i hi => get_app hi) (.inr ⟨H.length, rfl, by simp⟩) (by simp [HE.ids, Hd.ids]) own_nd, .ref H.length 3 0, rfl, rfl⟩
    simp only [gGrow]
    rw [if_neg (by omega), if_pos ⟨by omega, by omega⟩]⟩
instance concat (h : List (List Op)) : PCon T0 n.slices_Concat___api_Op_api_Op [eH h] false (hb h) (eOps h.flatten) := ⟨fun b => by
  refine pc tabOk ?_
  obtain ⟨hn, hb⟩ := b
  repeat' first | refine wh_seq ?_ | refine wh_skip ?_ | refine wh_block ?_ | refine wh_end ?_ | refine wh_exit ?_ | refine wh_ret ?_ | refine bk_norm ?_ | refine bk_exit ?_ | refine bk_ret ?_ | refine fr_exit ?_ | refine fr_ret ?_ | refine lp_exit ?_ | refine lp_ret ?_ | refine bk_other rfl ?_ | (apply wr; focus exact xx) | (apply wi; (focus exact xx); (focus exact xx); all_goals intro _; all_goals try first | contradiction | (exfalso; omega) | exact absurd trivial ‹_›) | refine wh_reg ?_ | refine wh_raw ?_ | (apply dr_fin; (focus exact xx)) | (apply dr_v; (focus exact xd)) | (apply dr_r; (focus exact xd)) | (apply dr_l; (focus exact RF.mk rfl); (focus exact RF.mk rfl); (focus exact RF.mk rfl); (focus exact RF.mk rfl); (focus exact RF.mk rfl)) | (apply dr_e; (focus exact RF.mk rfl); (focus exact RF.mk rfl); (focus exact RF.mk rfl); (focus exact RF.mk rfl)) | (apply rd_e; (focus exact xx); (focus exact xd)) | (apply rd_l; (focus exact xx)) | refine wh_ife ?_ | (apply re; focus exact xx) | (apply rf; (focus exact xx); (focus exact xx); all_goals intro _; all_goals try first | contradiction | (exfalso; omega) | exact absurd trivial ‹_›) | (apply ra; (focus exact xx); (focus exact xx); intro _) | (apply r1; (focus exact xx); (focus exact xx); intro _) | (apply rl; (focus exact xx); (focus exact xx); intro _) | (apply rb; (focus exact xx); (focus exact xx); intro _) | (apply rt; (focus exact xx); (focus exact xx)) | (apply rsi; (focus exact xx); (focus exact xx)) | (apply rsz; (focus exact xx); (focus exact xx)) | (apply rso; (focus exact xx); (focus exact xx)) | (apply rmm; (focus exact xx); intro _) | (apply ru; (focus exact xx); (focus exact xx)) | (apply rm; (focus exact xx); (focus exact xx); intro _) | (apply rk; (focus exact xx); (focus exact xx); intro _) | (apply rc; (focus exact xx); (focus exact xx)) | (apply rk'; (focus exact xx); (focus exact xx))
  refine wh_count h.length (fun i A L => A = [(0, eH h), (3, .int .i64 ((h.take i).flatten.length : Nat)), (9, eH h), (10, .int .i64 (h.length : Nat)), (11, .int .i64 (i : Nat))] ∧ L = []) ⟨rfl, rfl⟩ ?_
  rintro i A L hi ⟨rfl, rfl⟩
  have hl := @flat_len _ h i
  have hle := @flat_le _ h i
  repeat' first | refine wh_seq ?_ | refine wh_skip ?_ | refine wh_block ?_ | refine wh_end ?_ | refine wh_exit ?_ | refine wh_ret ?_ | refine bk_norm ?_ | refine bk_exit ?_ | refine bk_ret ?_ | refine fr_exit ?_ | refine fr_ret ?_ | refine lp_exit ?_ | refine lp_ret ?_ | refine bk_other rfl ?_ | (apply wr; focus exact xx) | (apply wi; (focus exact xx); (focus exact xx); all_goals intro _; all_goals try first | contradiction | (exfalso; omega) | exact absurd trivial ‹_›) | refine wh_reg ?_ | refine wh_raw ?_ | (apply dr_fin; (focus exact xx)) | (apply dr_v; (focus exact xd)) | (apply dr_r; (focus exact xd)) | (apply dr_l; (focus exact RF.mk rfl); (focus exact RF.mk rfl); (focus exact RF.mk rfl); (focus exact RF.mk rfl); (focus exact RF.mk rfl)) | (apply dr_e; (focus exact RF.mk rfl); (focus exact RF.mk rfl); (focus exact RF.mk rfl); (focus exact RF.mk rfl)) | (apply rd_e; (focus exact xx); (focus exact xd)) | (apply rd_l; (focus exact xx)) | refine wh_ife ?_ | (apply re; focus exact xx) | (apply rf; (focus exact xx); (focus exact xx); all_goals intro _; all_goals try first | contradiction | (exfalso; omega) | exact absurd trivial ‹_›) | (apply ra; (focus exact xx); (focus exact xx); intro _) | (apply r1; (focus exact xx); (focus exact xx); intro _) | (apply rl; (focus exact xx); (focus exact xx); intro _) | (apply rb; (focus exact xx); (focus exact xx); intro _) | (apply rt; (focus exact xx); (focus exact xx)) | (apply rsi; (focus exact xx); (focus exact xx)) | (apply rsz; (focus exact xx); (focus exact xx)) | (apply rso; (focus exact xx); (focus exact xx)) | (apply rmm; (focus exact xx); intro _) | (apply ru; (focus exact xx); (focus exact xx)) | (apply rm; (focus exact xx); (focus exact xx); intro _) | (apply rk; (focus exact xx); (focus exact xx); intro _) | (apply rc; (focus exact xx); (focus exact xx)) | (apply rk'; (focus exact xx); (focus exact xx))
  · refine fr_next (by omega) sbc ⟨?_, rfl⟩
    rw [flat_nth (by omega), List.length_append]
  obtain rfl : i = h.length := by omega
  rintro _ _ ⟨g, rfl, rfl⟩
  repeat' first | refine wh_seq ?_ | refine wh_skip ?_ | refine wh_block ?_ | refine wh_end ?_ | refine wh_exit ?_ | refine wh_ret ?_ | refine bk_norm ?_ | refine bk_exit ?_ | refine bk_ret ?_ | refine fr_exit ?_ | refine fr_ret ?_ | refine lp_exit ?_ | refine lp_ret ?_ | refine bk_other rfl ?_ | (apply wr; focus exact xx) | (apply wi; (focus exact xx); (focus exact xx); all_goals intro _; all_goals try first | contradiction | (exfalso; omega) | exact absurd trivial ‹_›) | refine wh_reg ?_ | refine wh_raw ?_ | (apply dr_fin; (focus exact xx)) | (apply dr_v; (focus exact xd)) | (apply dr_r; (focus exact xd)) | (apply dr_l; (focus exact RF.mk rfl); (focus exact RF.mk rfl); (focus exact RF.mk rfl); (focus exact RF.mk rfl); (focus exact RF.mk rfl)) | (apply dr_e; (focus exact RF.mk rfl); (focus exact RF.mk rfl); (focus exact RF.mk rfl); (focus exact RF.mk rfl)) | (apply rd_e; (focus exact xx); (focus exact xd)) | (apply rd_l; (focus exact xx)) | refine wh_ife ?_ | (apply re; focus exact xx) | (apply rf; (focus exact xx); (focus exact xx); all_goals intro _; all_goals try first | contradiction | (exfalso; omega) | exact absurd trivial ‹_›) | (apply ra; (focus exact xx); (focus exact xx); intro _) | (apply r1; (focus exact xx); (focus exact xx); intro _) | (apply rl; (focus exact xx); (focus exact xx); intro _) | (apply rb; (focus exact xx); (focus exact xx); intro _) | (apply rt; (focus exact xx); (focus exact xx)) | (apply rsi; (focus exact xx); (focus exact xx)) | (apply rsz; (focus exact xx); (focus exact xx)) | (apply rso; (focus exact xx); (focus exact xx)) | (apply rmm; (focus exact xx); intro _) | (apply ru; (focus exact xx); (focus exact xx)) | (apply rm; (focus exact xx); (focus exact xx); intro _) | (apply rk; (focus exact xx); (focus exact xx); intro _) | (apply rc; (focus exact xx); (focus exact xx)) | (apply rk'; (focus exact xx); (focus exact xx))
  refine wh_count h.length (fun i A L => ∃ g, A = [(6, Hd.v g), (25, eH h), (26, .int .i64 (h.length : Nat)), (27, .int .i64 (i : Nat))] ∧ L = [.own g 3 true ((h.take i).flatten.map eOp)]) ⟨g, rfl, rfl⟩ ?_
  rintro i A L hi ⟨g, rfl, rfl⟩
  have hl := @flat_len _ h i
  repeat' first | refine wh_seq ?_ | refine wh_skip ?_ | refine wh_block ?_ | refine wh_end ?_ | refine wh_exit ?_ | refine wh_ret ?_ | refine bk_norm ?_ | refine bk_exit ?_ | refine bk_ret ?_ | refine fr_exit ?_ | refine fr_ret ?_ | refine lp_exit ?_ | refine lp_ret ?_ | refine bk_other rfl ?_ | (apply wr; focus exact xx) | (apply wi; (focus exact xx); (focus exact xx); all_goals intro _; all_goals try first | contradiction | (exfalso; omega) | exact absurd trivial ‹_›) | refine wh_reg ?_ | refine wh_raw ?_ | (apply dr_fin; (focus exact xx)) | (apply dr_v; (focus exact xd)) | (apply dr_r; (focus exact xd)) | (apply dr_l; (focus exact RF.mk rfl); (focus exact RF.mk rfl); (focus exact RF.mk rfl); (focus exact RF.mk rfl); (focus exact RF.mk rfl)) | (apply dr_e; (focus exact RF.mk rfl); (focus exact RF.mk rfl); (focus exact RF.mk rfl); (focus exact RF.mk rfl)) | (apply rd_e; (focus exact xx); (focus exact xd)) | (apply rd_l; (focus exact xx)) | refine wh_ife ?_ | (apply re; focus exact xx) | (apply rf; (focus exact xx); (focus exact xx); all_goals intro _; all_goals try first | contradiction | (exfalso; omega) | exact absurd trivial ‹_›) | (apply ra; (focus exact xx); (focus exact xx); intro _) | (apply r1; (focus exact xx); (focus exact xx); intro _) | (apply rl; (focus exact xx); (focus exact xx); intro _) | (apply rb; (focus exact xx); (focus exact xx); intro _) | (apply rt; (focus exact xx); (focus exact xx)) | (apply rsi; (focus exact xx); (focus exact xx)) | (apply rsz; (focus exact xx); (focus exact xx)) | (apply rso; (focus exact xx); (focus exact xx)) | (apply rmm; (focus exact xx); intro _) | (apply ru; (focus exact xx); (focus exact xx)) | (apply rm; (focus exact xx); (focus exact xx); intro _) | (apply rk; (focus exact xx); (focus exact xx); intro _) | (apply rc; (focus exact xx); (focus exact xx)) | (apply rk'; (focus exact xx); (focus exact xx))
  · exact fr_next (by omega) sbc ⟨_, rfl, by rw [flat_nth (by omega), List.map_append]⟩
  · refine fz ?_
    rw [show i = h.length by omega, List.take_length]⟩
instance hist_Flat (h : List (List Op)) : PCon T0 n.hist_Flat [eH h] true (hb h) (eOps h.flatten) := ⟨fun b => by
  refine pc tabOk ?_
  repeat' first | refine wh_seq ?_ | refine wh_skip ?_ | refine wh_block ?_ | refine wh_end ?_ | refine wh_exit ?_ | refine wh_ret ?_ | refine bk_norm ?_ | refine bk_exit ?_ | refine bk_ret ?_ | refine fr_exit ?_ | refine fr_ret ?_ | refine lp_exit ?_ | refine lp_ret ?_ | refine bk_other rfl ?_ | (apply wr; focus exact xx) | (apply wi; (focus exact xx); (focus exact xx); all_goals intro _; all_goals try first | contradiction | (exfalso; omega) | exact absurd trivial ‹_›) | refine wh_reg ?_ | refine wh_raw ?_ | (apply dr_fin; (focus exact xx)) | (apply dr_v; (focus exact xd)) | (apply dr_r; (focus exact xd)) | (apply dr_l; (focus exact RF.mk rfl); (focus exact RF.mk rfl); (focus exact RF.mk rfl); (focus exact RF.mk rfl); (focus exact RF.mk rfl)) | (apply dr_e; (focus exact RF.mk rfl); (focus exact RF.mk rfl); (focus exact RF.mk rfl); (focus exact RF.mk rfl)) | (apply rd_e; (focus exact xx); (focus exact xd)) | (apply rd_l; (focus exact xx)) | refine wh_ife ?_ | (apply re; focus exact xx) | (apply rf; (focus exact xx); (focus exact xx); all_goals intro _; all_goals try first | contradiction | (exfalso; omega) | exact absurd trivial ‹_›) | (apply ra; (focus exact xx); (focus exact xx); intro _) | (apply r1; (focus exact xx); (focus exact xx); intro _) | (apply rl; (focus exact xx); (focus exact xx); intro _) | (apply rb; (focus exact xx); (focus exact xx); intro _) | (apply rt; (focus exact xx); (focus exact xx)) | (apply rsi; (focus exact xx); (focus exact xx)) | (apply rsz; (focus exact xx); (focus exact xx)) | (apply rso; (focus exact xx); (focus exact xx)) | (apply rmm; (focus exact xx); intro _) | (apply ru; (focus exact xx); (focus exact xx)) | (apply rm; (focus exact xx); (focus exact xx); intro _) | (apply rk; (focus exact xx); (focus exact xx); intro _) | (apply rc; (focus exact xx); (focus exact xx)) | (apply rk'; (focus exact xx); (focus exact xx))
  exact fz rfl⟩
def letters : List UInt8 := [97, 98, 99, 100, 101, 102, 103, 104, 105, 106, 107, 108, 109, 110, 111, 112, 113, 114, 115, 116, 117, 118, 119, 120, 121, 122]
theorem dw_all {p : UInt8 → Bool} : ∀ {l : List UInt8}, (∀ x ∈ l.dropWhile p, p x = true) → ∀ x ∈ l, p x = true
  | [], _ => by simp
  | c :: r, h => by
    by_cases hc : p c = true
    · rw [List.dropWhile_cons_of_pos hc] at h
      intro x hx
      rcases List.mem_cons.1 hx with rfl | hx
      · exact hc
      · exact dw_all h x hx
    · rw [List.dropWhile_cons_of_neg hc] at h
      exact h
theorem dw_nil {p : UInt8 → Bool} : ∀ {l : List UInt8}, l.dropWhile p = [] ↔ ∀ x ∈ l, p x = true
  | [] => by simp
  | c :: r => by
    by_cases hc : p c = true
    · rw [List.dropWhile_cons_of_pos hc, dw_nil]; simp [hc]
    · rw [List.dropWhile_cons_of_neg hc]; simp [hc]
theorem trim_nil {p : UInt8 → Bool} {s : List UInt8} : trimB p s = [] ↔ s.all p = true := by
  rw [trimB, cutL, dw_nil, List.all_eq_true, cutR]
  constructor
  · intro h x hx
    exact dw_all (l := s.reverse) (fun y hy => h y (by simpa using hy)) x (by simpa using hx)
  · intro h x hx
    exact h x (by simpa using (List.dropWhile_sublist p (l := s.reverse)).subset (by simpa using hx))
theorem let_low (c : UInt8) : letters.contains c = low c := by
  have : ∀ n < 256, letters.contains (UInt8.ofNat n) = low (UInt8.ofNat n) := by decide +kernel
  have h := this c.toNat (by have := c.toNat_lt; omega)
  simpa using h
instance named (s : List UInt8) : PCon T0 n.hist_named [.str s] false (s.length ≤ 1048576) (.bool (nameB s)) := ⟨fun b => by
  have hb : s.length ≤ 1048576 ∧ 2 ≤ letters.length ∧ letters.length ≤ 1000 ∧ ∀ c ∈ letters, c.toNat < 128 := ⟨b, by decide, by decide, by decide⟩
  refine pc tabOk ?_
  repeat' first | refine wh_seq ?_ | refine wh_skip ?_ | refine wh_block ?_ | refine wh_end ?_ | refine wh_exit ?_ | refine wh_ret ?_ | refine bk_norm ?_ | refine bk_exit ?_ | refine bk_ret ?_ | refine fr_exit ?_ | refine fr_ret ?_ | refine lp_exit ?_ | refine lp_ret ?_ | refine bk_other rfl ?_ | (apply wr; focus exact xx) | (apply wi; (focus exact xx); (focus exact xx); all_goals intro _; all_goals try first | contradiction | (exfalso; omega) | exact absurd trivial ‹_›) | refine wh_reg ?_ | refine wh_raw ?_ | (apply dr_fin; (focus exact xx)) | (apply dr_v; (focus exact xd)) | (apply dr_r; (focus exact xd)) | (apply dr_l; (focus exact RF.mk rfl); (focus exact RF.mk rfl); (focus exact RF.mk rfl); (focus exact RF.mk rfl); (focus exact RF.mk rfl)) | (apply dr_e; (focus exact RF.mk rfl); (focus exact RF.mk rfl); (focus exact RF.mk rfl); (focus exact RF.mk rfl)) | (apply rd_e; (focus exact xx); (focus exact xd)) | (apply rd_l; (focus exact xx)) | refine wh_ife ?_ | (apply re; focus exact xx) | (apply rf; (focus exact xx); (focus exact xx); all_goals intro _; all_goals try first | contradiction | (exfalso; omega) | exact absurd trivial ‹_›) | (apply ra; (focus exact xx); (focus exact xx); intro _) | (apply r1; (focus exact xx); (focus exact xx); intro _) | (apply rl; (focus exact xx); (focus exact xx); intro _) | (apply rb; (focus exact xx); (focus exact xx); intro _) | (apply rt; (focus exact xx); (focus exact xx)) | (apply rsi; (focus exact xx); (focus exact xx)) | (apply rsz; (focus exact xx); (focus exact xx)) | (apply rso; (focus exact xx); (focus exact xx)) | (apply rmm; (focus exact xx); intro _) | (apply ru; (focus exact xx); (focus exact xx)) | (apply rm; (focus exact xx); (focus exact xx); intro _) | (apply rk; (focus exact xx); (focus exact xx); intro _) | (apply rc; (focus exact xx); (focus exact xx)) | (apply rk'; (focus exact xx); (focus exact xx))
  refine fz (vbool ?_)
  show (_ && decide (trimB (fun c => letters.contains c) s = [])) = true ↔ _
  have : s = [] ↔ s.length = 0 := List.length_eq_zero_iff.symm
  simp only [let_low, trim_nil, nameB, Bool.and_eq_true, Bool.not_eq_true', decide_eq_false_iff_not, decide_eq_true_eq, this]
  have h1 : (¬ s.length = 0 ∧ (s.length : Int) ≤ 8) ↔ (1 ≤ s.length ∧ s.length ≤ 8) := by omega
  rw [h1]⟩
instance right1 (o : Op) : PCon T0 n.hist_Right_1 [eOp o] false (o.v.length ≤ 1048576) (.bool (!nameB o.v)) := ⟨fun b => by
  refine pc tabOk ?_
  repeat' first | refine wh_seq ?_ | refine wh_skip ?_ | refine wh_block ?_ | refine wh_end ?_ | refine wh_exit ?_ | refine wh_ret ?_ | refine bk_norm ?_ | refine bk_exit ?_ | refine bk_ret ?_ | refine fr_exit ?_ | refine fr_ret ?_ | refine lp_exit ?_ | refine lp_ret ?_ | refine bk_other rfl ?_ | (apply wr; focus exact xx) | (apply wi; (focus exact xx); (focus exact xx); all_goals intro _; all_goals try first | contradiction | (exfalso; omega) | exact absurd trivial ‹_›) | refine wh_reg ?_ | refine wh_raw ?_ | (apply dr_fin; (focus exact xx)) | (apply dr_v; (focus exact xd)) | (apply dr_r; (focus exact xd)) | (apply dr_l; (focus exact RF.mk rfl); (focus exact RF.mk rfl); (focus exact RF.mk rfl); (focus exact RF.mk rfl); (focus exact RF.mk rfl)) | (apply dr_e; (focus exact RF.mk rfl); (focus exact RF.mk rfl); (focus exact RF.mk rfl); (focus exact RF.mk rfl)) | (apply rd_e; (focus exact xx); (focus exact xd)) | (apply rd_l; (focus exact xx)) | refine wh_ife ?_ | (apply re; focus exact xx) | (apply rf; (focus exact xx); (focus exact xx); all_goals intro _; all_goals try first | contradiction | (exfalso; omega) | exact absurd trivial ‹_›) | (apply ra; (focus exact xx); (focus exact xx); intro _) | (apply r1; (focus exact xx); (focus exact xx); intro _) | (apply rl; (focus exact xx); (focus exact xx); intro _) | (apply rb; (focus exact xx); (focus exact xx); intro _) | (apply rt; (focus exact xx); (focus exact xx)) | (apply rsi; (focus exact xx); (focus exact xx)) | (apply rsz; (focus exact xx); (focus exact xx)) | (apply rso; (focus exact xx); (focus exact xx)) | (apply rmm; (focus exact xx); intro _) | (apply ru; (focus exact xx); (focus exact xx)) | (apply rm; (focus exact xx); (focus exact xx); intro _) | (apply rk; (focus exact xx); (focus exact xx); intro _) | (apply rc; (focus exact xx); (focus exact xx)) | (apply rk'; (focus exact xx); (focus exact xx))
  exact fz rfl⟩
theorem any_nth {α : Type} [Inhabited α] {p : α → Bool} {l : List α} {i : Nat} (hi : i < l.length) : (l.take (i + 1)).any p = ((l.take i).any p || p (nth l i)) := by
  rw [take_nth hi]; simp
/-- The first that is such; -1: there is none. -/
def idxF {α : Type} (p : α → Bool) (l : List α) : Int := match l.findIdx? p with | some i => (i : Int) | none => -1
theorem find_stop {α : Type} [Inhabited α] {p : α → Bool} : ∀ {l : List α} {i : Nat}, i < l.length → (l.take i).any p = false → p (nth l i) = true → l.findIdx? p = some i
  | [], i, h, _, _ => by cases h
  | a :: r, 0, h, _, hp => by
    have : p a = true := hp
    simp [List.findIdx?_cons, this]
  | a :: r, i + 1, h, ha, hp => by
    simp only [List.take_succ_cons, List.any_cons, Bool.or_eq_false_iff] at ha
    rw [List.findIdx?_cons, ha.1, find_stop (l := r) (i := i) (by simpa using h) ha.2 hp]
    rfl
theorem find_none {α : Type} {p : α → Bool} {l : List α} (h : l.any p = false) : l.findIdx? p = none := by
  rw [List.findIdx?_eq_none_iff]
  simpa using h
theorem idx_rc (f : Nat) (p : Op → Bool) (l : List Op) (hl : l.length ≤ 1048576) (hf : ∀ o ∈ l, CX T0 [] f [eOp o] (.bool (p o))) : RC T0 [] n.slices_IndexFunc___api_Op_api_Op [eOps l, .fn f [] []] (.int .i64 (idxF p l)) := by
  refine rw' tabOk ?_
  repeat' first | refine wh_seq ?_ | refine wh_skip ?_ | refine wh_block ?_ | refine wh_end ?_ | refine wh_exit ?_ | refine wh_ret ?_ | refine bk_norm ?_ | refine bk_exit ?_ | refine bk_ret ?_ | refine fr_exit ?_ | refine fr_ret ?_ | refine lp_exit ?_ | refine lp_ret ?_ | refine bk_other rfl ?_ | (apply wr; focus exact xx) | (apply wi; (focus exact xx); (focus exact xx); all_goals intro _; all_goals try first | contradiction | (exfalso; omega) | exact absurd trivial ‹_›) | refine wh_reg ?_ | refine wh_raw ?_ | (apply dr_fin; (focus exact xx)) | (apply dr_v; (focus exact xd)) | (apply dr_r; (focus exact xd)) | (apply dr_l; (focus exact RF.mk rfl); (focus exact RF.mk rfl); (focus exact RF.mk rfl); (focus exact RF.mk rfl); (focus exact RF.mk rfl)) | (apply dr_e; (focus exact RF.mk rfl); (focus exact RF.mk rfl); (focus exact RF.mk rfl); (focus exact RF.mk rfl)) | (apply rd_e; (focus exact xx); (focus exact xd)) | (apply rd_l; (focus exact xx)) | refine wh_ife ?_ | (apply re; focus exact xx) | (apply rf; (focus exact xx); (focus exact xx); all_goals intro _; all_goals try first | contradiction | (exfalso; omega) | exact absurd trivial ‹_›) | (apply ra; (focus exact xx); (focus exact xx); intro _) | (apply r1; (focus exact xx); (focus exact xx); intro _) | (apply rl; (focus exact xx); (focus exact xx); intro _) | (apply rb; (focus exact xx); (focus exact xx); intro _) | (apply rt; (focus exact xx); (focus exact xx)) | (apply rsi; (focus exact xx); (focus exact xx)) | (apply rsz; (focus exact xx); (focus exact xx)) | (apply rso; (focus exact xx); (focus exact xx)) | (apply rmm; (focus exact xx); intro _) | (apply ru; (focus exact xx); (focus exact xx)) | (apply rm; (focus exact xx); (focus exact xx); intro _) | (apply rk; (focus exact xx); (focus exact xx); intro _) | (apply rc; (focus exact xx); (focus exact xx)) | (apply rk'; (focus exact xx); (focus exact xx))
  refine wh_count l.length (fun i A L => A = [(0, eOps l), (1, .fn f [] []), (7, .int .i64 (l.length : Nat)), (8, .int .i64 (i : Nat))] ∧ L = [] ∧ (l.take i).any p = false) ⟨rfl, rfl, rfl⟩ ?_
  rintro i A L hi ⟨rfl, rfl, ha⟩
  by_cases hlt : i < l.length
  · have hc : CX T0 [] f ([] ++ [eOp (nth l i)] ++ []) (.bool (p (nth l i))) := hf _ (by rw [nth_eq hlt]; exact List.getElem_mem hlt)
    repeat' first | refine wh_seq ?_ | refine wh_skip ?_ | refine wh_block ?_ | refine wh_end ?_ | refine wh_exit ?_ | refine wh_ret ?_ | refine bk_norm ?_ | refine bk_exit ?_ | refine bk_ret ?_ | refine fr_exit ?_ | refine fr_ret ?_ | refine lp_exit ?_ | refine lp_ret ?_ | refine bk_other rfl ?_ | (apply wr; focus exact xx) | (apply wi; (focus exact xx); (focus exact xx); all_goals intro _; all_goals try first | contradiction | (exfalso; omega) | exact absurd trivial ‹_›) | refine wh_reg ?_ | refine wh_raw ?_ | (apply dr_fin; (focus exact xx)) | (apply dr_v; (focus exact xd)) | (apply dr_r; (focus exact xd)) | (apply dr_l; (focus exact RF.mk rfl); (focus exact RF.mk rfl); (focus exact RF.mk rfl); (focus exact RF.mk rfl); (focus exact RF.mk rfl)) | (apply dr_e; (focus exact RF.mk rfl); (focus exact RF.mk rfl); (focus exact RF.mk rfl); (focus exact RF.mk rfl)) | (apply rd_e; (focus exact xx); (focus exact xd)) | (apply rd_l; (focus exact xx)) | refine wh_ife ?_ | (apply re; focus exact xx) | (apply rf; (focus exact xx); (focus exact xx); all_goals intro _; all_goals try first | contradiction | (exfalso; omega) | exact absurd trivial ‹_›) | (apply ra; (focus exact xx); (focus exact xx); intro _) | (apply r1; (focus exact xx); (focus exact xx); intro _) | (apply rl; (focus exact xx); (focus exact xx); intro _) | (apply rb; (focus exact xx); (focus exact xx); intro _) | (apply rt; (focus exact xx); (focus exact xx)) | (apply rsi; (focus exact xx); (focus exact xx)) | (apply rsz; (focus exact xx); (focus exact xx)) | (apply rso; (focus exact xx); (focus exact xx)) | (apply rmm; (focus exact xx); intro _) | (apply ru; (focus exact xx); (focus exact xx)) | (apply rm; (focus exact xx); (focus exact xx); intro _) | (apply rk; (focus exact xx); (focus exact xx); intro _) | (apply rc; (focus exact xx); (focus exact xx)) | (apply rk'; (focus exact xx); (focus exact xx))
    · rename_i h1 h2
      exact fw (by rw [idxF, find_stop hlt ha h2])
    · rename_i h1 h2
      exact fr_next (by omega) sbc ⟨rfl, rfl, by rw [any_nth hlt, ha]; simpa using h2⟩
  · repeat' first | refine wh_seq ?_ | refine wh_skip ?_ | refine wh_block ?_ | refine wh_end ?_ | refine wh_exit ?_ | refine wh_ret ?_ | refine bk_norm ?_ | refine bk_exit ?_ | refine bk_ret ?_ | refine fr_exit ?_ | refine fr_ret ?_ | refine lp_exit ?_ | refine lp_ret ?_ | refine bk_other rfl ?_ | (apply wr; focus exact xx) | (apply wi; (focus exact xx); (focus exact xx); all_goals intro _; all_goals try first | contradiction | (exfalso; omega) | exact absurd trivial ‹_›) | refine wh_reg ?_ | refine wh_raw ?_ | (apply dr_fin; (focus exact xx)) | (apply dr_v; (focus exact xd)) | (apply dr_r; (focus exact xd)) | (apply dr_l; (focus exact RF.mk rfl); (focus exact RF.mk rfl); (focus exact RF.mk rfl); (focus exact RF.mk rfl); (focus exact RF.mk rfl)) | (apply dr_e; (focus exact RF.mk rfl); (focus exact RF.mk rfl); (focus exact RF.mk rfl); (focus exact RF.mk rfl)) | (apply rd_e; (focus exact xx); (focus exact xd)) | (apply rd_l; (focus exact xx)) | refine wh_ife ?_ | (apply re; focus exact xx) | (apply rf; (focus exact xx); (focus exact xx); all_goals intro _; all_goals try first | contradiction | (exfalso; omega) | exact absurd trivial ‹_›) | (apply ra; (focus exact xx); (focus exact xx); intro _) | (apply r1; (focus exact xx); (focus exact xx); intro _) | (apply rl; (focus exact xx); (focus exact xx); intro _) | (apply rb; (focus exact xx); (focus exact xx); intro _) | (apply rt; (focus exact xx); (focus exact xx)) | (apply rsi; (focus exact xx); (focus exact xx)) | (apply rsz; (focus exact xx); (focus exact xx)) | (apply rso; (focus exact xx); (focus exact xx)) | (apply rmm; (focus exact xx); intro _) | (apply ru; (focus exact xx); (focus exact xx)) | (apply rm; (focus exact xx); (focus exact xx); intro _) | (apply rk; (focus exact xx); (focus exact xx); intro _) | (apply rc; (focus exact xx); (focus exact xx)) | (apply rk'; (focus exact xx); (focus exact xx))
    rw [show i = l.length by omega, List.take_length] at ha
    exact fw (by rw [idxF, find_none ha])
theorem idx_neg {p : Op → Bool} {l : List Op} : (0 ≤ idxF p l) ↔ l.any p = true := by
  unfold idxF
  cases h : l.findIdx? p with
  | none => rw [List.findIdx?_eq_none_iff] at h; simp; simpa using h
  | some i =>
    rw [List.findIdx?_eq_some_iff_getElem] at h
    obtain ⟨hi, hp, _⟩ := h
    simp only [Int.natCast_nonneg, true_iff, List.any_eq_true]
    exact ⟨_, List.getElem_mem hi, hp⟩
theorem has_rc (f : Nat) (p : Op → Bool) (l : List Op) (hl : l.length ≤ 1048576) (hf : ∀ o ∈ l, CX T0 [] f [eOp o] (.bool (p o))) : RC T0 [] n.slices_ContainsFunc___api_Op_api_Op [eOps l, .fn f [] []] (.bool (l.any p)) := by
  have hx := idx_rc f p l hl hf
  refine rw' tabOk ?_
  repeat' first | refine wh_seq ?_ | refine wh_skip ?_ | refine wh_block ?_ | refine wh_end ?_ | refine wh_exit ?_ | refine wh_ret ?_ | refine bk_norm ?_ | refine bk_exit ?_ | refine bk_ret ?_ | refine fr_exit ?_ | refine fr_ret ?_ | refine lp_exit ?_ | refine lp_ret ?_ | refine bk_other rfl ?_ | (apply wr; focus exact xx) | (apply wi; (focus exact xx); (focus exact xx); all_goals intro _; all_goals try first | contradiction | (exfalso; omega) | exact absurd trivial ‹_›) | refine wh_reg ?_ | refine wh_raw ?_ | (apply dr_fin; (focus exact xx)) | (apply dr_v; (focus exact xd)) | (apply dr_r; (focus exact xd)) | (apply dr_l; (focus exact RF.mk rfl); (focus exact RF.mk rfl); (focus exact RF.mk rfl); (focus exact RF.mk rfl); (focus exact RF.mk rfl)) | (apply dr_e; (focus exact RF.mk rfl); (focus exact RF.mk rfl); (focus exact RF.mk rfl); (focus exact RF.mk rfl)) | (apply rd_e; (focus exact xx); (focus exact xd)) | (apply rd_l; (focus exact xx)) | refine wh_ife ?_ | (apply re; focus exact xx) | (apply rf; (focus exact xx); (focus exact xx); all_goals intro _; all_goals try first | contradiction | (exfalso; omega) | exact absurd trivial ‹_›) | (apply ra; (focus exact xx); (focus exact xx); intro _) | (apply r1; (focus exact xx); (focus exact xx); intro _) | (apply rl; (focus exact xx); (focus exact xx); intro _) | (apply rb; (focus exact xx); (focus exact xx); intro _) | (apply rt; (focus exact xx); (focus exact xx)) | (apply rsi; (focus exact xx); (focus exact xx)) | (apply rsz; (focus exact xx); (focus exact xx)) | (apply rso; (focus exact xx); (focus exact xx)) | (apply rmm; (focus exact xx); intro _) | (apply ru; (focus exact xx); (focus exact xx)) | (apply rm; (focus exact xx); (focus exact xx); intro _) | (apply rk; (focus exact xx); (focus exact xx); intro _) | (apply rc; (focus exact xx); (focus exact xx)) | (apply rk'; (focus exact xx); (focus exact xx))
  refine fw (vbool ?_)
  rw [decide_eq_true_eq]; exact idx_neg
instance hist_Right (h : List (List Op)) : PCon T0 n.hist_Right [eH h] false (hb h ∧ ∀ o ∈ h.flatten, o.v.length ≤ 1048576) (.bool (rightB h)) := ⟨fun ⟨b, bn⟩ => by
  have hx := has_rc n.hist_Right_1 (fun o => !nameB o.v) h.flatten b.2 (fun o ho => x_p (ds := [eOp o]) (dps_cons (dp_d rfl) dps_nil) inferInstance ⟨fun _ => rfl⟩ ⟨bn o ho⟩)
  refine pc tabOk ?_
  repeat' first | refine wh_seq ?_ | refine wh_skip ?_ | refine wh_block ?_ | refine wh_end ?_ | refine wh_exit ?_ | refine wh_ret ?_ | refine bk_norm ?_ | refine bk_exit ?_ | refine bk_ret ?_ | refine fr_exit ?_ | refine fr_ret ?_ | refine lp_exit ?_ | refine lp_ret ?_ | refine bk_other rfl ?_ | (apply wr; focus exact xx) | (apply wi; (focus exact xx); (focus exact xx); all_goals intro _; all_goals try first | contradiction | (exfalso; omega) | exact absurd trivial ‹_›) | refine wh_reg ?_ | refine wh_raw ?_ | (apply dr_fin; (focus exact xx)) | (apply dr_v; (focus exact xd)) | (apply dr_r; (focus exact xd)) | (apply dr_l; (focus exact RF.mk rfl); (focus exact RF.mk rfl); (focus exact RF.mk rfl); (focus exact RF.mk rfl); (focus exact RF.mk rfl)) | (apply dr_e; (focus exact RF.mk rfl); (focus exact RF.mk rfl); (focus exact RF.mk rfl); (focus exact RF.mk rfl)) | (apply rd_e; (focus exact xx); (focus exact xd)) | (apply rd_l; (focus exact xx)) | refine wh_ife ?_ | (apply re; focus exact xx) | (apply rf; (focus exact xx); (focus exact xx); all_goals intro _; all_goals try first | contradiction | (exfalso; omega) | exact absurd trivial ‹_›) | (apply ra; (focus exact xx); (focus exact xx); intro _) | (apply r1; (focus exact xx); (focus exact xx); intro _) | (apply rl; (focus exact xx); (focus exact xx); intro _) | (apply rb; (focus exact xx); (focus exact xx); intro _) | (apply rt; (focus exact xx); (focus exact xx)) | (apply rsi; (focus exact xx); (focus exact xx)) | (apply rsz; (focus exact xx); (focus exact xx)) | (apply rso; (focus exact xx); (focus exact xx)) | (apply rmm; (focus exact xx); intro _) | (apply ru; (focus exact xx); (focus exact xx)) | (apply rm; (focus exact xx); (focus exact xx); intro _) | (apply rk; (focus exact xx); (focus exact xx); intro _) | (apply rc; (focus exact xx); (focus exact xx)) | (apply rk'; (focus exact xx); (focus exact xx))
  refine fz (vbool ?_)
  simp only [rightB, Bool.and_eq_true, Bool.not_eq_true', decide_eq_true_eq, List.any_eq_false, List.all_eq_true, Bool.not_eq_true, Bool.not_eq_false, Bool.not_eq_false']
  rw [and_comm]
  have : ((h.flatten.length : Int) ≤ 4096) ↔ (h.flatten.length ≤ 4096) := by omega
  rw [this]⟩
end Go.AM

