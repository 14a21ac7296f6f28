/- Part ZB of the proof. -/
import Derived.Test.YthhgiappgpeloaaDoorZA
import Derived.Test.YthhgiappgpeloaaDoorA3
import Derived.Lib.ItoaMem
set_option linter.unusedVariables false
set_option linter.unusedSimpArgs false
namespace Go.AM
attribute [-simp] List.length_flatten List.map_flatten List.map_take List.map_map List.flatten_append
def cutP (s p : List UInt8) : List UInt8 := if p.isPrefixOf s = true then s.drop p.length else s
abbrev digits : List UInt8 := [48, 49, 50, 51, 52, 53, 54, 55, 56, 57]
def dig (c : UInt8) : Bool := decide (48 ≤ c.toNat) && decide (c.toNat ≤ 57)
theorem dig_mem (c : UInt8) : digits.contains c = dig c := by
  have : ∀ n < 256, digits.contains (UInt8.ofNat n) = dig (UInt8.ofNat n) := by decide +kernel
  have h := this c.toNat (by have := c.toNat_lt; omega)
  simpa using h
end Go.AM

set_option linter.unusedVariables false
set_option linter.unusedSimpArgs false
namespace Go.AM
attribute [-simp] List.length_flatten List.map_flatten List.map_take List.map_map List.flatten_append
theorem nth_drop {α : Type} [Inhabited α] {l : List α} {i j : Nat} : nth (l.drop i) j = nth l (i + j) := by
  simp [nth, List.getD_eq_getElem?_getD]
theorem tw_stop {α : Type} [Inhabited α] {p : α → Bool} : ∀ {l : List α} {m : Nat}, (l.take m).all p = true → m ≤ l.length → (m = l.length ∨ p (nth l m) = false) → (l.takeWhile p).length = m
  | [], m, _, h, _ => by simp at h ⊢; omega
  | a :: r, 0, _, _, h => by
    rcases h with h | h
    · simp at h
    · have : p a = false := h
      simp [this]
  | a :: r, m + 1, h1, h2, h3 => by
    simp only [List.take_succ_cons, List.all_cons, Bool.and_eq_true] at h1
    rw [List.takeWhile_cons_of_pos h1.1, List.length_cons, tw_stop (l := r) (m := m) h1.2 (by simpa using h2) (by
      rcases h3 with h3 | h3
      · left; simpa using h3
      · right; exact h3)]
theorem tw_dw {α : Type} {p : α → Bool} (l : List α) : (l.takeWhile p).length + (l.dropWhile p).length = l.length := by
  rw [← List.length_append, List.takeWhile_append_dropWhile]
def sgn (r : List UInt8) : Nat := if ([45] : List UInt8).isPrefixOf r = true then 1 else 0
def spanR (r : List UInt8) : Nat := sgn r + ((r.drop (sgn r)).takeWhile dig).length
def spanI (s : List UInt8) (a : Int) : Int := if a < 0 ∨ (s.length : Int) ≤ a then 0 else (spanR (s.drop a.toNat) : Nat)
theorem cut_sgn (r : List UInt8) : cutP r [45] = r.drop (sgn r) := by
  unfold cutP sgn
  split <;> rfl
theorem sgn_le (r : List UInt8) : sgn r ≤ r.length := by
  unfold sgn; split
  · rename_i h; have := (List.isPrefixOf_iff_prefix.1 h).length_le; simpa using this
  · omega
theorem sgn_at {r : List UInt8} (h : 0 < r.length) : sgn r = if (nth r 0).toNat = 45 then 1 else 0 := by
  cases r with
  | nil => cases h
  | cons c t =>
    have e : nth (c :: t) 0 = c := rfl
    rw [e]
    unfold sgn
    by_cases hc : c = 45
    · subst hc; simp
    · have : ¬ c.toNat = 45 := fun h => hc (UInt8.toNat_inj.1 h)
      rw [if_neg this, if_neg]
      simp [List.isPrefixOf]
      exact fun h => hc h.symm
set_option maxHeartbeats 1000000 in
instance ref05_Span (s : List UInt8) (a : Int) : PCon T0 n.ref05_Span [.str s, .int .i64 a] false (s.length ≤ 1048576) (.int .i64 (spanI s a)) := ⟨fun hs => by
  refine pc tabOk ?_
  by_cases ha : a < 0 ∨ (s.length : Int) ≤ a
  · repeat' first | (apply dr_fin; (focus exact xx)) | (apply dr_gt; (focus exact xx)) | (apply dr_gf; (focus exact xx); (focus first | exact .inl rfl | exact .inr rfl); focus (first | exact InD.no | (apply InD.so; (focus exact xx)))) | (apply dr_v; focus (apply DV.mk; (focus exact RF.mk rfl); (focus exact RF.mk rfl); (focus exact RF.mk rfl); (focus exact RF.mk rfl); (focus exact xx); focus (first | exact InD.no | (apply InD.so; (focus exact xx))))) | (apply dr_ve; focus (apply DVE.mk; (focus exact RF.mk rfl); (focus exact RF.mk rfl); (focus exact RF.mk rfl); (focus exact xx); focus (first | exact InD.no | (apply InD.so; (focus exact xx))))) | (apply dr_r; focus (apply DL.mk; (focus exact RF.mk rfl); (focus exact xx); (focus exact xx); focus (first | exact InD.no | (apply InD.so; (focus exact xx))))) | (apply dr_l; (focus exact RF.mk rfl); (focus exact RF.mk rfl); (focus exact RF.mk rfl); (focus exact RF.mk rfl); (focus exact RF.mk rfl)) | (apply dr_e; (focus exact RF.mk rfl); (focus exact RF.mk rfl); (focus exact RF.mk rfl); (focus exact RF.mk rfl)) | (apply rd_e; (focus exact xx); focus (repeat first | exact PO.nil | apply PO.zero | (apply PO.ld; (focus exact xx)))) | (apply rd_l; (focus exact xx)) | refine wh_seq ?_ | refine wh_skip ?_ | refine wh_block ?_ | refine wh_end ?_ | refine wh_exit ?_ | refine wh_ret ?_ | refine bk_norm ?_ | refine bk_exit ?_ | refine bk_ret ?_ | refine fr_exit ?_ | refine fr_ret ?_ | refine lp_exit ?_ | refine lp_ret ?_ | refine jn_exit ?_ | refine jn_ret ?_ | refine bk_other rfl ?_ | (apply wr; focus exact xx) | (apply wi; (focus exact xx); (focus exact xx); all_goals intro _; all_goals try first | contradiction | (exfalso; omega) | exact absurd trivial ‹_›) | refine wh_reg ?_ | refine wh_ife ?_ | (apply re; focus exact xx) | (apply rf; (focus exact xx); (focus exact xx); all_goals intro _; all_goals try first | contradiction | (exfalso; omega) | exact absurd trivial ‹_›) | (apply ra; (focus exact xx); (focus exact xx); intro _) | (apply r1; (focus exact xx); (focus exact xx); intro _) | (apply rl; (focus exact xx); (focus exact xx); intro _) | (apply rb; (focus exact xx); (focus exact xx); intro _) | (apply rsi; (focus exact xx); (focus exact xx); all_goals try infer_instance) | (apply rsz; (focus exact xx); (focus exact xx); all_goals try infer_instance) | (apply rt; (focus exact xx); (focus exact xx)) | (apply rso; (focus exact xx); (focus exact xx); all_goals try infer_instance) | (apply rmm; (focus exact xx); intro _) | (apply rsb; (focus exact xx); (focus exact xx)) | (apply ru; (focus exact xx); (focus exact xx)) | (apply rm; (focus exact xx); (focus exact xx); intro _) | (apply rk; (focus exact xx); (focus exact xx); intro _) | (apply rcf; (focus exact xx); (focus (apply ACF.mk; (focus exact xx); (focus exact inferInstance); (focus exact xx); (focus exact inferInstance); (focus exact xx); (focus exact rfl)))) | (apply rco; (focus exact xx); (focus (apply ACO.mk; (focus exact xx); (focus exact xx); (focus exact inferInstance); (focus exact xx); (focus exact xx))); intro _) | (apply rc; (focus exact xx); (focus exact xx)) | (apply rk'; (focus exact xx); (focus exact xx))
    refine fz ?_
    rw [spanI, if_pos ha]
  obtain ⟨k, rfl⟩ : ∃ k : Nat, a = (k : Nat) := ⟨a.toNat, by omega⟩
  have hk : k < s.length := by omega
  rw [spanI, if_neg ha, Int.toNat_natCast]
  have hrl : (s.drop k).length = s.length - k := List.length_drop
  have hsg : sgn (s.drop k) = if (nth s k).toNat = 45 then 1 else 0 := by
    rw [sgn_at (by omega), nth_drop]; rfl
  have hsl := sgn_le (s.drop k)
  repeat' first | (apply dr_fin; (focus exact xx)) | (apply dr_gt; (focus exact xx)) | (apply dr_gf; (focus exact xx); (focus first | exact .inl rfl | exact .inr rfl); focus (first | exact InD.no | (apply InD.so; (focus exact xx)))) | (apply dr_v; focus (apply DV.mk; (focus exact RF.mk rfl); (focus exact RF.mk rfl); (focus exact RF.mk rfl); (focus exact RF.mk rfl); (focus exact xx); focus (first | exact InD.no | (apply InD.so; (focus exact xx))))) | (apply dr_ve; focus (apply DVE.mk; (focus exact RF.mk rfl); (focus exact RF.mk rfl); (focus exact RF.mk rfl); (focus exact xx); focus (first | exact InD.no | (apply InD.so; (focus exact xx))))) | (apply dr_r; focus (apply DL.mk; (focus exact RF.mk rfl); (focus exact xx); (focus exact xx); focus (first | exact InD.no | (apply InD.so; (focus exact xx))))) | (apply dr_l; (focus exact RF.mk rfl); (focus exact RF.mk rfl); (focus exact RF.mk rfl); (focus exact RF.mk rfl); (focus exact RF.mk rfl)) | (apply dr_e; (focus exact RF.mk rfl); (focus exact RF.mk rfl); (focus exact RF.mk rfl); (focus exact RF.mk rfl)) | (apply rd_e; (focus exact xx); focus (repeat first | exact PO.nil | apply PO.zero | (apply PO.ld; (focus exact xx)))) | (apply rd_l; (focus exact xx)) | refine wh_seq ?_ | refine wh_skip ?_ | refine wh_block ?_ | refine wh_end ?_ | refine wh_exit ?_ | refine wh_ret ?_ | refine bk_norm ?_ | refine bk_exit ?_ | refine bk_ret ?_ | refine fr_exit ?_ | refine fr_ret ?_ | refine lp_exit ?_ | refine lp_ret ?_ | refine jn_exit ?_ | refine jn_ret ?_ | refine bk_other rfl ?_ | (apply wr; focus exact xx) | (apply wi; (focus exact xx); (focus exact xx); all_goals intro _; all_goals try first | contradiction | (exfalso; omega) | exact absurd trivial ‹_›) | refine wh_reg ?_ | refine wh_ife ?_ | (apply re; focus exact xx) | (apply rf; (focus exact xx); (focus exact xx); all_goals intro _; all_goals try first | contradiction | (exfalso; omega) | exact absurd trivial ‹_›) | (apply ra; (focus exact xx); (focus exact xx); intro _) | (apply r1; (focus exact xx); (focus exact xx); intro _) | (apply rl; (focus exact xx); (focus exact xx); intro _) | (apply rb; (focus exact xx); (focus exact xx); intro _) | (apply rsi; (focus exact xx); (focus exact xx); all_goals try infer_instance) | (apply rsz; (focus exact xx); (focus exact xx); all_goals try infer_instance) | (apply rt; (focus exact xx); (focus exact xx)) | (apply rso; (focus exact xx); (focus exact xx); all_goals try infer_instance) | (apply rmm; (focus exact xx); intro _) | (apply rsb; (focus exact xx); (focus exact xx)) | (apply ru; (focus exact xx); (focus exact xx)) | (apply rm; (focus exact xx); (focus exact xx); intro _) | (apply rk; (focus exact xx); (focus exact xx); intro _) | (apply rcf; (focus exact xx); (focus (apply ACF.mk; (focus exact xx); (focus exact inferInstance); (focus exact xx); (focus exact inferInstance); (focus exact xx); (focus exact rfl)))) | (apply rco; (focus exact xx); (focus (apply ACO.mk; (focus exact xx); (focus exact xx); (focus exact inferInstance); (focus exact xx); (focus exact xx))); intro _) | (apply rc; (focus exact xx); (focus exact xx)) | (apply rk'; (focus exact xx); (focus exact xx))
  · rename_i hq
    have hg : sgn (s.drop k) = 1 := by rw [hsg, if_pos (by omega)]
    refine wh_loop (fun m A L => ∃ j : Nat, m = s.length - (k + 1 + j) ∧ A = [(0, .str s), (1, .int .i64 (k : Nat)), (5, .int .i64 ((1 + j : Nat) : Int))] ∧ L = [] ∧ k + 1 + j ≤ s.length ∧ (((s.drop k).drop 1).take j).all dig = true) _ ⟨0, rfl, rfl, rfl, by omega, by simp⟩ ?_
    rintro m A L ⟨j, rfl, rfl, rfl, hj, hall⟩
    have hnd : nth ((s.drop k).drop 1) j = nth s (k + (1 + j)) := by rw [nth_drop, nth_drop]
    have hdl : ((s.drop k).drop 1).length = s.length - k - 1 := by rw [List.length_drop, hrl]
    repeat' first | (apply dr_fin; (focus exact xx)) | (apply dr_gt; (focus exact xx)) | (apply dr_gf; (focus exact xx); (focus first | exact .inl rfl | exact .inr rfl); focus (first | exact InD.no | (apply InD.so; (focus exact xx)))) | (apply dr_v; focus (apply DV.mk; (focus exact RF.mk rfl); (focus exact RF.mk rfl); (focus exact RF.mk rfl); (focus exact RF.mk rfl); (focus exact xx); focus (first | exact InD.no | (apply InD.so; (focus exact xx))))) | (apply dr_ve; focus (apply DVE.mk; (focus exact RF.mk rfl); (focus exact RF.mk rfl); (focus exact RF.mk rfl); (focus exact xx); focus (first | exact InD.no | (apply InD.so; (focus exact xx))))) | (apply dr_r; focus (apply DL.mk; (focus exact RF.mk rfl); (focus exact xx); (focus exact xx); focus (first | exact InD.no | (apply InD.so; (focus exact xx))))) | (apply dr_l; (focus exact RF.mk rfl); (focus exact RF.mk rfl); (focus exact RF.mk rfl); (focus exact RF.mk rfl); (focus exact RF.mk rfl)) | (apply dr_e; (focus exact RF.mk rfl); (focus exact RF.mk rfl); (focus exact RF.mk rfl); (focus exact RF.mk rfl)) | (apply rd_e; (focus exact xx); focus (repeat first | exact PO.nil | apply PO.zero | (apply PO.ld; (focus exact xx)))) | (apply rd_l; (focus exact xx)) | refine wh_seq ?_ | refine wh_skip ?_ | refine wh_block ?_ | refine wh_end ?_ | refine wh_exit ?_ | refine wh_ret ?_ | refine bk_norm ?_ | refine bk_exit ?_ | refine bk_ret ?_ | refine fr_exit ?_ | refine fr_ret ?_ | refine lp_exit ?_ | refine lp_ret ?_ | refine jn_exit ?_ | refine jn_ret ?_ | refine bk_other rfl ?_ | (apply wr; focus exact xx) | (apply wi; (focus exact xx); (focus exact xx); all_goals intro _; all_goals try first | contradiction | (exfalso; omega) | exact absurd trivial ‹_›) | refine wh_reg ?_ | refine wh_ife ?_ | (apply re; focus exact xx) | (apply rf; (focus exact xx); (focus exact xx); all_goals intro _; all_goals try first | contradiction | (exfalso; omega) | exact absurd trivial ‹_›) | (apply ra; (focus exact xx); (focus exact xx); intro _) | (apply r1; (focus exact xx); (focus exact xx); intro _) | (apply rl; (focus exact xx); (focus exact xx); intro _) | (apply rb; (focus exact xx); (focus exact xx); intro _) | (apply rsi; (focus exact xx); (focus exact xx); all_goals try infer_instance) | (apply rsz; (focus exact xx); (focus exact xx); all_goals try infer_instance) | (apply rt; (focus exact xx); (focus exact xx)) | (apply rso; (focus exact xx); (focus exact xx); all_goals try infer_instance) | (apply rmm; (focus exact xx); intro _) | (apply rsb; (focus exact xx); (focus exact xx)) | (apply ru; (focus exact xx); (focus exact xx)) | (apply rm; (focus exact xx); (focus exact xx); intro _) | (apply rk; (focus exact xx); (focus exact xx); intro _) | (apply rcf; (focus exact xx); (focus (apply ACF.mk; (focus exact xx); (focus exact inferInstance); (focus exact xx); (focus exact inferInstance); (focus exact xx); (focus exact rfl)))) | (apply rco; (focus exact xx); (focus (apply ACO.mk; (focus exact xx); (focus exact xx); (focus exact inferInstance); (focus exact xx); (focus exact xx))); intro _) | (apply rc; (focus exact xx); (focus exact xx)) | (apply rk'; (focus exact xx); (focus exact xx))
    · rename_i h
      refine ⟨_, _, ?_, sbc, j + 1, rfl, rfl, rfl, by omega, ?_⟩
      · omega
      · rw [all_nth (by omega), hall, hnd, dig]; simp; omega
    · rename_i h
      refine fz ?_
      have ht := tw_stop hall (by omega) (by
        by_cases he : j = ((s.drop k).drop 1).length
        · exact .inl he
        · right; rw [hnd, dig]; simp; omega)
      rw [spanR, hg, ht]
  · rename_i hq
    have hg : sgn (s.drop k) = 0 := by rw [hsg, if_neg (by omega)]
    refine wh_loop (fun m A L => ∃ j : Nat, m = s.length - (k + 0 + j) ∧ A = [(0, .str s), (1, .int .i64 (k : Nat)), (5, .int .i64 ((0 + j : Nat) : Int))] ∧ L = [] ∧ k + 0 + j ≤ s.length ∧ (((s.drop k).drop 0).take j).all dig = true) _ ⟨0, rfl, rfl, rfl, by omega, by simp⟩ ?_
    rintro m A L ⟨j, rfl, rfl, rfl, hj, hall⟩
    have hnd : nth ((s.drop k).drop 0) j = nth s (k + (0 + j)) := by rw [nth_drop, nth_drop]
    simp only [Nat.zero_add] at hnd
    have hdl : ((s.drop k).drop 0).length = s.length - k - 0 := by rw [List.length_drop, hrl]
    repeat' first | (apply dr_fin; (focus exact xx)) | (apply dr_gt; (focus exact xx)) | (apply dr_gf; (focus exact xx); (focus first | exact .inl rfl | exact .inr rfl); focus (first | exact InD.no | (apply InD.so; (focus exact xx)))) | (apply dr_v; focus (apply DV.mk; (focus exact RF.mk rfl); (focus exact RF.mk rfl); (focus exact RF.mk rfl); (focus exact RF.mk rfl); (focus exact xx); focus (first | exact InD.no | (apply InD.so; (focus exact xx))))) | (apply dr_ve; focus (apply DVE.mk; (focus exact RF.mk rfl); (focus exact RF.mk rfl); (focus exact RF.mk rfl); (focus exact xx); focus (first | exact InD.no | (apply InD.so; (focus exact xx))))) | (apply dr_r; focus (apply DL.mk; (focus exact RF.mk rfl); (focus exact xx); (focus exact xx); focus (first | exact InD.no | (apply InD.so; (focus exact xx))))) | (apply dr_l; (focus exact RF.mk rfl); (focus exact RF.mk rfl); (focus exact RF.mk rfl); (focus exact RF.mk rfl); (focus exact RF.mk rfl)) | (apply dr_e; (focus exact RF.mk rfl); (focus exact RF.mk rfl); (focus exact RF.mk rfl); (focus exact RF.mk rfl)) | (apply rd_e; (focus exact xx); focus (repeat first | exact PO.nil | apply PO.zero | (apply PO.ld; (focus exact xx)))) | (apply rd_l; (focus exact xx)) | refine wh_seq ?_ | refine wh_skip ?_ | refine wh_block ?_ | refine wh_end ?_ | refine wh_exit ?_ | refine wh_ret ?_ | refine bk_norm ?_ | refine bk_exit ?_ | refine bk_ret ?_ | refine fr_exit ?_ | refine fr_ret ?_ | refine lp_exit ?_ | refine lp_ret ?_ | refine jn_exit ?_ | refine jn_ret ?_ | refine bk_other rfl ?_ | (apply wr; focus exact xx) | (apply wi; (focus exact xx); (focus exact xx); all_goals intro _; all_goals try first | contradiction | (exfalso; omega) | exact absurd trivial ‹_›) | refine wh_reg ?_ | refine wh_ife ?_ | (apply re; focus exact xx) | (apply rf; (focus exact xx); (focus exact xx); all_goals intro _; all_goals try first | contradiction | (exfalso; omega) | exact absurd trivial ‹_›) | (apply ra; (focus exact xx); (focus exact xx); intro _) | (apply r1; (focus exact xx); (focus exact xx); intro _) | (apply rl; (focus exact xx); (focus exact xx); intro _) | (apply rb; (focus exact xx); (focus exact xx); intro _) | (apply rsi; (focus exact xx); (focus exact xx); all_goals try infer_instance) | (apply rsz; (focus exact xx); (focus exact xx); all_goals try infer_instance) | (apply rt; (focus exact xx); (focus exact xx)) | (apply rso; (focus exact xx); (focus exact xx); all_goals try infer_instance) | (apply rmm; (focus exact xx); intro _) | (apply rsb; (focus exact xx); (focus exact xx)) | (apply ru; (focus exact xx); (focus exact xx)) | (apply rm; (focus exact xx); (focus exact xx); intro _) | (apply rk; (focus exact xx); (focus exact xx); intro _) | (apply rcf; (focus exact xx); (focus (apply ACF.mk; (focus exact xx); (focus exact inferInstance); (focus exact xx); (focus exact inferInstance); (focus exact xx); (focus exact rfl)))) | (apply rco; (focus exact xx); (focus (apply ACO.mk; (focus exact xx); (focus exact xx); (focus exact inferInstance); (focus exact xx); (focus exact xx))); intro _) | (apply rc; (focus exact xx); (focus exact xx)) | (apply rk'; (focus exact xx); (focus exact xx))
    · rename_i h
      simp only [Nat.zero_add] at h
      refine ⟨_, _, ?_, sbc, j + 1, rfl, rfl, rfl, by omega, ?_⟩
      · omega
      · rw [all_nth (by omega), hall, hnd, dig]; simp; omega
    · rename_i h
      simp only [Nat.zero_add] at h
      refine fz ?_
      have ht := tw_stop hall (by omega) (by
        by_cases he : j = ((s.drop k).drop 0).length
        · exact .inl he
        · right; rw [hnd, dig]; simp; omega)
      rw [spanR, hg, ht]⟩
end Go.AM

set_option linter.unusedVariables false
set_option linter.unusedSimpArgs false
namespace Go.AM
attribute [-simp] List.length_flatten List.map_flatten List.map_take List.map_map List.flatten_append
def numV (d : List UInt8) : Nat := d.foldl (fun n c => 10 * n + (c.toNat - 48)) 0
def mostN (s : List UInt8) : Nat := 9223372036854775807 + sgn s
def okD (s : List UInt8) : Prop := s.drop (sgn s) ≠ [] ∧ (s.drop (sgn s)).all dig = true ∧ ¬ ((nth (s.drop (sgn s)) 0).toNat = 48 ∧ s ≠ [48])
instance (s : List UInt8) : Decidable (okD s) := by unfold okD; infer_instance
def getS (s : List UInt8) : Int × Int :=
  if okD s then if numV (s.drop (sgn s)) ≤ mostN s then (if sgn s = 1 then -(numV (s.drop (sgn s)) : Int) else numV (s.drop (sgn s)), 0) else (0, 3) else (0, 2)
theorem numV_succ {d : List UInt8} {i : Nat} (h : i < d.length) : numV (d.take (i + 1)) = 10 * numV (d.take i) + ((nth d i).toNat - 48) := by
  rw [take_nth h, numV, List.foldl_append]; rfl
theorem numV_mono (d : List UInt8) (i : Nat) : numV (d.take i) ≤ numV d := by
  have key : ∀ (a b : List UInt8), numV a ≤ numV (a ++ b) := by
    intro a b
    induction b generalizing a with
    | nil => simp
    | cons c r ih =>
      have h1 := ih (a ++ [c])
      rw [List.append_assoc] at h1
      refine Nat.le_trans ?_ h1
      simp only [numV, List.foldl_append, List.foldl_cons, List.foldl_nil]; omega
  have := key (d.take i) (d.drop i)
  rwa [List.take_append_drop] at this
theorem sgn_or (s : List UInt8) : (sgn s = 1 ∧ ([45] : List UInt8).isPrefixOf s = true) ∨ (sgn s = 0 ∧ ([45] : List UInt8).isPrefixOf s = false) := by
  unfold sgn
  cases ([45] : List UInt8).isPrefixOf s <;> simp
end Go.AM

set_option linter.unusedVariables false
set_option linter.unusedSimpArgs false
namespace Go.AM
attribute [-simp] List.length_flatten List.map_flatten List.map_take List.map_map List.flatten_append
theorem span_all {s : List UInt8} (h : s.drop (sgn s) ≠ []) : spanI s 0 = (s.length : Int) ↔ (s.drop (sgn s)).all dig = true := by
  have h0 : s ≠ [] := by rintro rfl; simp at h
  have hl : 0 < s.length := List.length_pos_iff.2 h0
  have e : spanI s 0 = (spanR s : Nat) := by
    unfold spanI
    rw [if_neg (by omega)]; rfl
  have h1 := tw_dw (p := dig) (s.drop (sgn s))
  have h2 := sgn_le s
  rw [List.length_drop] at h1
  rw [e, spanR]
  constructor
  · intro h
    have h3 : ((s.drop (sgn s)).dropWhile dig).length = 0 := by omega
    rw [List.length_eq_zero_iff, dw_nil] at h3
    exact List.all_eq_true.2 h3
  · intro h
    have h3 : (s.drop (sgn s)).dropWhile dig = [] := dw_nil.2 (List.all_eq_true.1 h)
    rw [h3] at h1
    simp at h1
    omega
theorem tdiv_neg' {a : Int} (h : a ≤ 0) : Int.tdiv a 10 = -((-a) / 10) := by
  have : a = -(-a) := by omega
  rw [this, Int.neg_tdiv, Int.tdiv_eq_ediv_of_nonneg (by omega)]; omega
theorem bad_iff {s : List UInt8} (h : s.drop (sgn s) ≠ []) : ¬ okD s ↔ (¬ spanI s 0 = (s.length : Int) ∨ ((nth (s.drop (sgn s)) 0).toNat = 48 ∧ (1 < (s.drop (sgn s)).length ∨ sgn s = 1))) := by
  rw [span_all h]
  unfold okD
  have hl : 0 < (s.drop (sgn s)).length := List.length_pos_iff.2 h
  have key : (nth (s.drop (sgn s)) 0).toNat = 48 → (s ≠ [48] ↔ (1 < (s.drop (sgn s)).length ∨ sgn s = 1)) := by
    intro h48
    rcases sgn_or s with ⟨h1, h2⟩ | ⟨h1, h2⟩
    · constructor
      · exact fun _ => .inr h1
      · rintro _ rfl; simp [sgn, List.isPrefixOf] at h1
    · have e : s.drop (sgn s) = s := by rw [h1]; rfl
      rw [e] at h48 hl ⊢
      constructor
      · intro hne
        left
        by_cases hlen : s.length = 1
        · obtain ⟨c, rfl⟩ := List.length_eq_one_iff.1 hlen
          have : c.toNat = 48 := h48
          exact absurd (by rw [show c = 48 from UInt8.toNat_inj.1 this]) hne
        · omega
      · rintro (hh | hh) rfl
        · simp at hh
        · rw [hh] at h1; cases h1
  constructor
  · intro hn
    by_cases ha : (s.drop (sgn s)).all dig = true
    · right
      by_cases h48 : (nth (s.drop (sgn s)) 0).toNat = 48
      · refine ⟨h48, (key h48).1 fun he => hn ⟨h, ha, fun hh => hh.2 he⟩⟩
      · exact absurd ⟨h, ha, fun hh => h48 hh.1⟩ hn
    · exact .inl ha
  · rintro (ha | ⟨h48, hh⟩) ⟨_, h2, h3⟩
    · exact ha h2
    · exact h3 ⟨h48, (key h48).2 hh⟩
set_option maxHeartbeats 4000000 in
instance ref05_Get (s : List UInt8) : PCon T0 n.ref05_Get [.str s] false (s.length ≤ 1048576) (.tup [.int .i64 (getS s).1, .int .i64 (getS s).2]) := ⟨fun hs => by
  refine pc tabOk ?_
  have hdl0 : (s.drop 1).length = s.length - 1 := List.length_drop
  repeat' first | (apply dr_fin; (focus exact xx)) | (apply dr_gt; (focus exact xx)) | (apply dr_gf; (focus exact xx); (focus first | exact .inl rfl | exact .inr rfl); focus (first | exact InD.no | (apply InD.so; (focus exact xx)))) | (apply dr_v; focus (apply DV.mk; (focus exact RF.mk rfl); (focus exact RF.mk rfl); (focus exact RF.mk rfl); (focus exact RF.mk rfl); (focus exact xx); focus (first | exact InD.no | (apply InD.so; (focus exact xx))))) | (apply dr_ve; focus (apply DVE.mk; (focus exact RF.mk rfl); (focus exact RF.mk rfl); (focus exact RF.mk rfl); (focus exact xx); focus (first | exact InD.no | (apply InD.so; (focus exact xx))))) | (apply dr_r; focus (apply DL.mk; (focus exact RF.mk rfl); (focus exact xx); (focus exact xx); focus (first | exact InD.no | (apply InD.so; (focus exact xx))))) | (apply dr_l; (focus exact RF.mk rfl); (focus exact RF.mk rfl); (focus exact RF.mk rfl); (focus exact RF.mk rfl); (focus exact RF.mk rfl)) | (apply dr_e; (focus exact RF.mk rfl); (focus exact RF.mk rfl); (focus exact RF.mk rfl); (focus exact RF.mk rfl)) | (apply rd_e; (focus exact xx); focus (repeat first | exact PO.nil | apply PO.zero | (apply PO.ld; (focus exact xx)))) | (apply rd_l; (focus exact xx)) | refine wh_seq ?_ | refine wh_skip ?_ | refine wh_block ?_ | refine wh_end ?_ | refine wh_exit ?_ | refine wh_ret ?_ | refine bk_norm ?_ | refine bk_exit ?_ | refine bk_ret ?_ | refine fr_exit ?_ | refine fr_ret ?_ | refine lp_exit ?_ | refine lp_ret ?_ | refine jn_exit ?_ | refine jn_ret ?_ | refine bk_other rfl ?_ | (apply wr; focus exact xx) | (apply wi; (focus exact xx); (focus exact xx); all_goals intro _; all_goals try first | contradiction | (exfalso; omega) | exact absurd trivial ‹_›) | refine wh_reg ?_ | refine wh_ife ?_ | (apply re; focus exact xx) | (apply rf; (focus exact xx); (focus exact xx); all_goals intro _; all_goals try first | contradiction | (exfalso; omega) | exact absurd trivial ‹_›) | (apply ra; (focus exact xx); (focus exact xx); intro _) | (apply r1; (focus exact xx); (focus exact xx); intro _) | (apply rl; (focus exact xx); (focus exact xx); intro _) | (apply rb; (focus exact xx); (focus exact xx); intro _) | (apply rsi; (focus exact xx); (focus exact xx); all_goals try infer_instance) | (apply rsz; (focus exact xx); (focus exact xx); all_goals try infer_instance) | (apply rt; (focus exact xx); (focus exact xx)) | (apply rso; (focus exact xx); (focus exact xx); all_goals try infer_instance) | (apply rmm; (focus exact xx); intro _) | (apply rsb; (focus exact xx); (focus exact xx)) | (apply ru; (focus exact xx); (focus exact xx)) | (apply rm; (focus exact xx); (focus exact xx); intro _) | (apply rk; (focus exact xx); (focus exact xx); intro _) | (apply rcf; (focus exact xx); (focus (apply ACF.mk; (focus exact xx); (focus exact inferInstance); (focus exact xx); (focus exact inferInstance); (focus exact xx); (focus exact rfl)))) | (apply rco; (focus exact xx); (focus (apply ACO.mk; (focus exact xx); (focus exact xx); (focus exact inferInstance); (focus exact xx); (focus exact xx))); intro _) | (apply rc; (focus exact xx); (focus exact xx)) | (apply rk'; (focus exact xx); (focus exact xx))
  · rename_i h45 hb
    have hsg : sgn s = 1 := by
      have e : (0 < (s.length : Int) ∧ ((nth s 0).toNat : Int) = 45) := h45
      rw [sgn_at (by omega), if_pos (by omega)]
    have eD : s.drop (sgn s) = (s.drop 1) := by rw [hsg]
    have hb : ((((s.drop 1)).length : Int) = 0 ∨ ¬ spanI s 0 = (s.length : Int)) ∨ (((nth (s.drop 1) 0).toNat : Int) = 48 ∧ (1 < (((s.drop 1)).length : Int) ∨ (-1 : Int) < 0)) := hb
    refine fz ?_
    rw [getS, if_neg]
    · rfl
    · intro hok
      have hne := hok.1
      refine (bad_iff hne).2 ?_ hok
      rw [eD] at hne ⊢
      have hpos : 0 < ((s.drop 1)).length := List.length_pos_iff.2 hne
      rcases hb with (hb | hb) | ⟨hb1, hb2⟩
      · omega
      · exact .inl hb
      · exact .inr ⟨by omega, by omega⟩
  · rename_i h45 hb
    have hsg : sgn s = 1 := by
      have e : (0 < (s.length : Int) ∧ ((nth s 0).toNat : Int) = 45) := h45
      rw [sgn_at (by omega), if_pos (by omega)]
    have eD : s.drop (sgn s) = (s.drop 1) := by rw [hsg]
    have hb : ¬ (((((s.drop 1)).length : Int) = 0 ∨ ¬ spanI s 0 = (s.length : Int)) ∨ (((nth (s.drop 1) 0).toNat : Int) = 48 ∧ (1 < (((s.drop 1)).length : Int) ∨ (-1 : Int) < 0))) := hb
    have hne : s.drop (sgn s) ≠ [] := by
      rw [eD]
      exact List.length_pos_iff.1 (by omega)
    have hok : okD s := by
      refine Decidable.not_not.1 fun h => ?_
      rcases (bad_iff hne).1 h with h | ⟨h1, h2⟩
      · exact hb (.inl (.inr h))
      · rw [eD] at h1 h2
        exact hb (.inr ⟨by omega, by omega⟩)
    have hall := hok.2.1
    rw [eD] at hall
    rw [getS, if_pos hok, mostN, eD, hsg]
    have hdl : ((s.drop 1)).length ≤ 1048576 := by have := hs; rw [List.length_drop]; omega
    clear hb hne hok
    rw [show s.drop (Int.toNat 1) = s.drop 1 from rfl]
    generalize s.drop 1 = d at *
    refine wh_count d.length (fun i A L => A = [(4, .int .i64 (-1)), (5, .str d), (6, .int .i64 (-(numV (d.take i) : Nat))), (7, .int .i64 (i : Nat))] ∧ L = [] ∧ numV (d.take i) ≤ 9223372036854775808) ⟨rfl, rfl, by simp [numV]⟩ ?_
    rintro i A L hi ⟨rfl, rfl, hle⟩
    by_cases hlt : i < d.length
    · have hc : dig (nth d i) = true := List.all_eq_true.1 hall _ (by rw [nth_eq hlt]; exact List.getElem_mem _)
      simp only [dig, Bool.and_eq_true, decide_eq_true_eq] at hc
      have hns := numV_succ hlt
      have hmn := numV_mono d (i + 1)
      have w0 : WR .i64 ((nth d i).toNat : Nat) ((nth d i).toNat : Nat) := ⟨by rw [IntKind.wrap_i64]; omega⟩
      have wA : WR .i64 (Int.tdiv (9223372036854775807 - (-1 * (((nth d i).toNat : Int) - 48))) 10) (IntKind.i64.wrap (Int.tdiv (9223372036854775807 - (-1 * (((nth d i).toNat : Int) - 48))) 10)) := ⟨rfl⟩
      have wB : WR .i64 (Int.tdiv (-9223372036854775808 - (-1 * (((nth d i).toNat : Int) - 48))) 10) (-((9223372036854775808 - (((nth d i).toNat : Int) - 48)) / 10)) := ⟨by rw [tdiv_neg' (by omega), IntKind.wrap_i64]; omega⟩
      repeat' first | (apply dr_fin; (focus exact xx)) | (apply dr_gt; (focus exact xx)) | (apply dr_gf; (focus exact xx); (focus first | exact .inl rfl | exact .inr rfl); focus (first | exact InD.no | (apply InD.so; (focus exact xx)))) | (apply dr_v; focus (apply DV.mk; (focus exact RF.mk rfl); (focus exact RF.mk rfl); (focus exact RF.mk rfl); (focus exact RF.mk rfl); (focus exact xx); focus (first | exact InD.no | (apply InD.so; (focus exact xx))))) | (apply dr_ve; focus (apply DVE.mk; (focus exact RF.mk rfl); (focus exact RF.mk rfl); (focus exact RF.mk rfl); (focus exact xx); focus (first | exact InD.no | (apply InD.so; (focus exact xx))))) | (apply dr_r; focus (apply DL.mk; (focus exact RF.mk rfl); (focus exact xx); (focus exact xx); focus (first | exact InD.no | (apply InD.so; (focus exact xx))))) | (apply dr_l; (focus exact RF.mk rfl); (focus exact RF.mk rfl); (focus exact RF.mk rfl); (focus exact RF.mk rfl); (focus exact RF.mk rfl)) | (apply dr_e; (focus exact RF.mk rfl); (focus exact RF.mk rfl); (focus exact RF.mk rfl); (focus exact RF.mk rfl)) | (apply rd_e; (focus exact xx); focus (repeat first | exact PO.nil | apply PO.zero | (apply PO.ld; (focus exact xx)))) | (apply rd_l; (focus exact xx)) | refine wh_seq ?_ | refine wh_skip ?_ | refine wh_block ?_ | refine wh_end ?_ | refine wh_exit ?_ | refine wh_ret ?_ | refine bk_norm ?_ | refine bk_exit ?_ | refine bk_ret ?_ | refine fr_exit ?_ | refine fr_ret ?_ | refine lp_exit ?_ | refine lp_ret ?_ | refine jn_exit ?_ | refine jn_ret ?_ | refine bk_other rfl ?_ | (apply wr; focus exact xx) | (apply wi; (focus exact xx); (focus exact xx); all_goals intro _; all_goals try first | contradiction | (exfalso; omega) | exact absurd trivial ‹_›) | refine wh_reg ?_ | refine wh_ife ?_ | (apply re; focus exact xx) | (apply rf; (focus exact xx); (focus exact xx); all_goals intro _; all_goals try first | contradiction | (exfalso; omega) | exact absurd trivial ‹_›) | (apply ra; (focus exact xx); (focus exact xx); intro _) | (apply r1; (focus exact xx); (focus exact xx); intro _) | (apply rl; (focus exact xx); (focus exact xx); intro _) | (apply rb; (focus exact xx); (focus exact xx); intro _) | (apply rsi; (focus exact xx); (focus exact xx); all_goals try infer_instance) | (apply rsz; (focus exact xx); (focus exact xx); all_goals try infer_instance) | (apply rt; (focus exact xx); (focus exact xx)) | (apply rso; (focus exact xx); (focus exact xx); all_goals try infer_instance) | (apply rmm; (focus exact xx); intro _) | (apply rsb; (focus exact xx); (focus exact xx)) | (apply ru; (focus exact xx); (focus exact xx)) | (apply rm; (focus exact xx); (focus exact xx); intro _) | (apply rk; (focus exact xx); (focus exact xx); intro _) | (apply rcf; (focus exact xx); (focus (apply ACF.mk; (focus exact xx); (focus exact inferInstance); (focus exact xx); (focus exact inferInstance); (focus exact xx); (focus exact rfl)))) | (apply rco; (focus exact xx); (focus (apply ACO.mk; (focus exact xx); (focus exact xx); (focus exact inferInstance); (focus exact xx); (focus exact xx))); intro _) | (apply rc; (focus exact xx); (focus exact xx)) | (apply rk'; (focus exact xx); (focus exact xx))
      · refine fz ?_
        rename_i h1
        rw [if_neg (by omega)]; rfl
      · rename_i h1
        refine fr_next (by omega) sbc ⟨?_, rfl, by omega⟩
        rw [show 10 * -((numV (d.take i) : Nat) : Int) + -1 * (((nth d i).toNat : Int) - 48) = -((numV (d.take (i + 1)) : Nat) : Int) by omega]
    · obtain rfl : i = d.length := by omega
      rw [List.take_length] at hle ⊢
      repeat' first | (apply dr_fin; (focus exact xx)) | (apply dr_gt; (focus exact xx)) | (apply dr_gf; (focus exact xx); (focus first | exact .inl rfl | exact .inr rfl); focus (first | exact InD.no | (apply InD.so; (focus exact xx)))) | (apply dr_v; focus (apply DV.mk; (focus exact RF.mk rfl); (focus exact RF.mk rfl); (focus exact RF.mk rfl); (focus exact RF.mk rfl); (focus exact xx); focus (first | exact InD.no | (apply InD.so; (focus exact xx))))) | (apply dr_ve; focus (apply DVE.mk; (focus exact RF.mk rfl); (focus exact RF.mk rfl); (focus exact RF.mk rfl); (focus exact xx); focus (first | exact InD.no | (apply InD.so; (focus exact xx))))) | (apply dr_r; focus (apply DL.mk; (focus exact RF.mk rfl); (focus exact xx); (focus exact xx); focus (first | exact InD.no | (apply InD.so; (focus exact xx))))) | (apply dr_l; (focus exact RF.mk rfl); (focus exact RF.mk rfl); (focus exact RF.mk rfl); (focus exact RF.mk rfl); (focus exact RF.mk rfl)) | (apply dr_e; (focus exact RF.mk rfl); (focus exact RF.mk rfl); (focus exact RF.mk rfl); (focus exact RF.mk rfl)) | (apply rd_e; (focus exact xx); focus (repeat first | exact PO.nil | apply PO.zero | (apply PO.ld; (focus exact xx)))) | (apply rd_l; (focus exact xx)) | refine wh_seq ?_ | refine wh_skip ?_ | refine wh_block ?_ | refine wh_end ?_ | refine wh_exit ?_ | refine wh_ret ?_ | refine bk_norm ?_ | refine bk_exit ?_ | refine bk_ret ?_ | refine fr_exit ?_ | refine fr_ret ?_ | refine lp_exit ?_ | refine lp_ret ?_ | refine jn_exit ?_ | refine jn_ret ?_ | refine bk_other rfl ?_ | (apply wr; focus exact xx) | (apply wi; (focus exact xx); (focus exact xx); all_goals intro _; all_goals try first | contradiction | (exfalso; omega) | exact absurd trivial ‹_›) | refine wh_reg ?_ | refine wh_ife ?_ | (apply re; focus exact xx) | (apply rf; (focus exact xx); (focus exact xx); all_goals intro _; all_goals try first | contradiction | (exfalso; omega) | exact absurd trivial ‹_›) | (apply ra; (focus exact xx); (focus exact xx); intro _) | (apply r1; (focus exact xx); (focus exact xx); intro _) | (apply rl; (focus exact xx); (focus exact xx); intro _) | (apply rb; (focus exact xx); (focus exact xx); intro _) | (apply rsi; (focus exact xx); (focus exact xx); all_goals try infer_instance) | (apply rsz; (focus exact xx); (focus exact xx); all_goals try infer_instance) | (apply rt; (focus exact xx); (focus exact xx)) | (apply rso; (focus exact xx); (focus exact xx); all_goals try infer_instance) | (apply rmm; (focus exact xx); intro _) | (apply rsb; (focus exact xx); (focus exact xx)) | (apply ru; (focus exact xx); (focus exact xx)) | (apply rm; (focus exact xx); (focus exact xx); intro _) | (apply rk; (focus exact xx); (focus exact xx); intro _) | (apply rcf; (focus exact xx); (focus (apply ACF.mk; (focus exact xx); (focus exact inferInstance); (focus exact xx); (focus exact inferInstance); (focus exact xx); (focus exact rfl)))) | (apply rco; (focus exact xx); (focus (apply ACO.mk; (focus exact xx); (focus exact xx); (focus exact inferInstance); (focus exact xx); (focus exact xx))); intro _) | (apply rc; (focus exact xx); (focus exact xx)) | (apply rk'; (focus exact xx); (focus exact xx))
      refine fz ?_
      rw [if_pos (by omega)]; rfl
  · rename_i h45 hb
    have hsg : sgn s = 0 := by
      have e : ¬ (0 < (s.length : Int) ∧ ((nth s 0).toNat : Int) = 45) := h45
      rcases Nat.lt_or_ge 0 s.length with hl | hl
      · rw [sgn_at hl, if_neg (by omega)]
      · rw [show s = [] from List.length_eq_zero_iff.1 (by omega)]; rfl
    have eD : s.drop (sgn s) = s := by rw [hsg]; rfl
    have hb : (((s).length : Int) = 0 ∨ ¬ spanI s 0 = (s.length : Int)) ∨ (((nth s 0).toNat : Int) = 48 ∧ (1 < ((s).length : Int) ∨ (1 : Int) < 0)) := hb
    refine fz ?_
    rw [getS, if_neg]
    · rfl
    · intro hok
      have hne := hok.1
      refine (bad_iff hne).2 ?_ hok
      rw [eD] at hne ⊢
      have hpos : 0 < (s).length := List.length_pos_iff.2 hne
      rcases hb with (hb | hb) | ⟨hb1, hb2⟩
      · omega
      · exact .inl hb
      · exact .inr ⟨by omega, by omega⟩
  · rename_i h45 hb
    have hsg : sgn s = 0 := by
      have e : ¬ (0 < (s.length : Int) ∧ ((nth s 0).toNat : Int) = 45) := h45
      rcases Nat.lt_or_ge 0 s.length with hl | hl
      · rw [sgn_at hl, if_neg (by omega)]
      · rw [show s = [] from List.length_eq_zero_iff.1 (by omega)]; rfl
    have eD : s.drop (sgn s) = s := by rw [hsg]; rfl
    have hb : ¬ ((((s).length : Int) = 0 ∨ ¬ spanI s 0 = (s.length : Int)) ∨ (((nth s 0).toNat : Int) = 48 ∧ (1 < ((s).length : Int) ∨ (1 : Int) < 0))) := hb
    have hne : s.drop (sgn s) ≠ [] := by
      rw [eD]
      exact List.length_pos_iff.1 (by omega)
    have hok : okD s := by
      refine Decidable.not_not.1 fun h => ?_
      rcases (bad_iff hne).1 h with h | ⟨h1, h2⟩
      · exact hb (.inl (.inr h))
      · rw [eD] at h1 h2
        exact hb (.inr ⟨by omega, by omega⟩)
    have hall := hok.2.1
    rw [eD] at hall
    rw [getS, if_pos hok, mostN, eD, hsg]
    have hdl : (s).length ≤ 1048576 := by have := hs; omega
    clear hb hne hok
    clear eD
    generalize s = d at *
    refine wh_count d.length (fun i A L => A = [(4, .int .i64 (1)), (5, .str d), (6, .int .i64 (numV (d.take i) : Nat)), (7, .int .i64 (i : Nat))] ∧ L = [] ∧ numV (d.take i) ≤ 9223372036854775807) ⟨rfl, rfl, by simp [numV]⟩ ?_
    rintro i A L hi ⟨rfl, rfl, hle⟩
    by_cases hlt : i < d.length
    · have hc : dig (nth d i) = true := List.all_eq_true.1 hall _ (by rw [nth_eq hlt]; exact List.getElem_mem _)
      simp only [dig, Bool.and_eq_true, decide_eq_true_eq] at hc
      have hns := numV_succ hlt
      have hmn := numV_mono d (i + 1)
      have w0 : WR .i64 ((nth d i).toNat : Nat) ((nth d i).toNat : Nat) := ⟨by rw [IntKind.wrap_i64]; omega⟩
      have wA : WR .i64 (Int.tdiv (9223372036854775807 - (1 * (((nth d i).toNat : Int) - 48))) 10) ((9223372036854775807 - (((nth d i).toNat : Int) - 48)) / 10) := ⟨by rw [Int.tdiv_eq_ediv_of_nonneg (by omega), IntKind.wrap_i64]; omega⟩
      have wB : WR .i64 (Int.tdiv (-9223372036854775808 - (1 * (((nth d i).toNat : Int) - 48))) 10) (IntKind.i64.wrap (Int.tdiv (-9223372036854775808 - (1 * (((nth d i).toNat : Int) - 48))) 10)) := ⟨rfl⟩
      repeat' first | (apply dr_fin; (focus exact xx)) | (apply dr_gt; (focus exact xx)) | (apply dr_gf; (focus exact xx); (focus first | exact .inl rfl | exact .inr rfl); focus (first | exact InD.no | (apply InD.so; (focus exact xx)))) | (apply dr_v; focus (apply DV.mk; (focus exact RF.mk rfl); (focus exact RF.mk rfl); (focus exact RF.mk rfl); (focus exact RF.mk rfl); (focus exact xx); focus (first | exact InD.no | (apply InD.so; (focus exact xx))))) | (apply dr_ve; focus (apply DVE.mk; (focus exact RF.mk rfl); (focus exact RF.mk rfl); (focus exact RF.mk rfl); (focus exact xx); focus (first | exact InD.no | (apply InD.so; (focus exact xx))))) | (apply dr_r; focus (apply DL.mk; (focus exact RF.mk rfl); (focus exact xx); (focus exact xx); focus (first | exact InD.no | (apply InD.so; (focus exact xx))))) | (apply dr_l; (focus exact RF.mk rfl); (focus exact RF.mk rfl); (focus exact RF.mk rfl); (focus exact RF.mk rfl); (focus exact RF.mk rfl)) | (apply dr_e; (focus exact RF.mk rfl); (focus exact RF.mk rfl); (focus exact RF.mk rfl); (focus exact RF.mk rfl)) | (apply rd_e; (focus exact xx); focus (repeat first | exact PO.nil | apply PO.zero | (apply PO.ld; (focus exact xx)))) | (apply rd_l; (focus exact xx)) | refine wh_seq ?_ | refine wh_skip ?_ | refine wh_block ?_ | refine wh_end ?_ | refine wh_exit ?_ | refine wh_ret ?_ | refine bk_norm ?_ | refine bk_exit ?_ | refine bk_ret ?_ | refine fr_exit ?_ | refine fr_ret ?_ | refine lp_exit ?_ | refine lp_ret ?_ | refine jn_exit ?_ | refine jn_ret ?_ | refine bk_other rfl ?_ | (apply wr; focus exact xx) | (apply wi; (focus exact xx); (focus exact xx); all_goals intro _; all_goals try first | contradiction | (exfalso; omega) | exact absurd trivial ‹_›) | refine wh_reg ?_ | refine wh_ife ?_ | (apply re; focus exact xx) | (apply rf; (focus exact xx); (focus exact xx); all_goals intro _; all_goals try first | contradiction | (exfalso; omega) | exact absurd trivial ‹_›) | (apply ra; (focus exact xx); (focus exact xx); intro _) | (apply r1; (focus exact xx); (focus exact xx); intro _) | (apply rl; (focus exact xx); (focus exact xx); intro _) | (apply rb; (focus exact xx); (focus exact xx); intro _) | (apply rsi; (focus exact xx); (focus exact xx); all_goals try infer_instance) | (apply rsz; (focus exact xx); (focus exact xx); all_goals try infer_instance) | (apply rt; (focus exact xx); (focus exact xx)) | (apply rso; (focus exact xx); (focus exact xx); all_goals try infer_instance) | (apply rmm; (focus exact xx); intro _) | (apply rsb; (focus exact xx); (focus exact xx)) | (apply ru; (focus exact xx); (focus exact xx)) | (apply rm; (focus exact xx); (focus exact xx); intro _) | (apply rk; (focus exact xx); (focus exact xx); intro _) | (apply rcf; (focus exact xx); (focus (apply ACF.mk; (focus exact xx); (focus exact inferInstance); (focus exact xx); (focus exact inferInstance); (focus exact xx); (focus exact rfl)))) | (apply rco; (focus exact xx); (focus (apply ACO.mk; (focus exact xx); (focus exact xx); (focus exact inferInstance); (focus exact xx); (focus exact xx))); intro _) | (apply rc; (focus exact xx); (focus exact xx)) | (apply rk'; (focus exact xx); (focus exact xx))
      · refine fz ?_
        rename_i h1
        rw [if_neg (by omega)]; rfl
      · rename_i h1
        refine fr_next (by omega) sbc ⟨?_, rfl, by omega⟩
        rw [show 10 * ((numV (d.take i) : Nat) : Int) + 1 * (((nth d i).toNat : Int) - 48) = ((numV (d.take (i + 1)) : Nat) : Int) by omega]
    · obtain rfl : i = d.length := by omega
      rw [List.take_length] at hle ⊢
      repeat' first | (apply dr_fin; (focus exact xx)) | (apply dr_gt; (focus exact xx)) | (apply dr_gf; (focus exact xx); (focus first | exact .inl rfl | exact .inr rfl); focus (first | exact InD.no | (apply InD.so; (focus exact xx)))) | (apply dr_v; focus (apply DV.mk; (focus exact RF.mk rfl); (focus exact RF.mk rfl); (focus exact RF.mk rfl); (focus exact RF.mk rfl); (focus exact xx); focus (first | exact InD.no | (apply InD.so; (focus exact xx))))) | (apply dr_ve; focus (apply DVE.mk; (focus exact RF.mk rfl); (focus exact RF.mk rfl); (focus exact RF.mk rfl); (focus exact xx); focus (first | exact InD.no | (apply InD.so; (focus exact xx))))) | (apply dr_r; focus (apply DL.mk; (focus exact RF.mk rfl); (focus exact xx); (focus exact xx); focus (first | exact InD.no | (apply InD.so; (focus exact xx))))) | (apply dr_l; (focus exact RF.mk rfl); (focus exact RF.mk rfl); (focus exact RF.mk rfl); (focus exact RF.mk rfl); (focus exact RF.mk rfl)) | (apply dr_e; (focus exact RF.mk rfl); (focus exact RF.mk rfl); (focus exact RF.mk rfl); (focus exact RF.mk rfl)) | (apply rd_e; (focus exact xx); focus (repeat first | exact PO.nil | apply PO.zero | (apply PO.ld; (focus exact xx)))) | (apply rd_l; (focus exact xx)) | refine wh_seq ?_ | refine wh_skip ?_ | refine wh_block ?_ | refine wh_end ?_ | refine wh_exit ?_ | refine wh_ret ?_ | refine bk_norm ?_ | refine bk_exit ?_ | refine bk_ret ?_ | refine fr_exit ?_ | refine fr_ret ?_ | refine lp_exit ?_ | refine lp_ret ?_ | refine jn_exit ?_ | refine jn_ret ?_ | refine bk_other rfl ?_ | (apply wr; focus exact xx) | (apply wi; (focus exact xx); (focus exact xx); all_goals intro _; all_goals try first | contradiction | (exfalso; omega) | exact absurd trivial ‹_›) | refine wh_reg ?_ | refine wh_ife ?_ | (apply re; focus exact xx) | (apply rf; (focus exact xx); (focus exact xx); all_goals intro _; all_goals try first | contradiction | (exfalso; omega) | exact absurd trivial ‹_›) | (apply ra; (focus exact xx); (focus exact xx); intro _) | (apply r1; (focus exact xx); (focus exact xx); intro _) | (apply rl; (focus exact xx); (focus exact xx); intro _) | (apply rb; (focus exact xx); (focus exact xx); intro _) | (apply rsi; (focus exact xx); (focus exact xx); all_goals try infer_instance) | (apply rsz; (focus exact xx); (focus exact xx); all_goals try infer_instance) | (apply rt; (focus exact xx); (focus exact xx)) | (apply rso; (focus exact xx); (focus exact xx); all_goals try infer_instance) | (apply rmm; (focus exact xx); intro _) | (apply rsb; (focus exact xx); (focus exact xx)) | (apply ru; (focus exact xx); (focus exact xx)) | (apply rm; (focus exact xx); (focus exact xx); intro _) | (apply rk; (focus exact xx); (focus exact xx); intro _) | (apply rcf; (focus exact xx); (focus (apply ACF.mk; (focus exact xx); (focus exact inferInstance); (focus exact xx); (focus exact inferInstance); (focus exact xx); (focus exact rfl)))) | (apply rco; (focus exact xx); (focus (apply ACO.mk; (focus exact xx); (focus exact xx); (focus exact inferInstance); (focus exact xx); (focus exact xx))); intro _) | (apply rc; (focus exact xx); (focus exact xx)) | (apply rk'; (focus exact xx); (focus exact xx))
      refine fz ?_
      rw [if_pos (by omega)]; rfl⟩
end Go.AM

set_option linter.unusedVariables false
set_option linter.unusedSimpArgs false
namespace Go.AM
open Go.Lib
attribute [-simp] List.length_flatten List.map_flatten List.map_take List.map_map List.flatten_append
/-! Numerals. -/
theorem dec_big {u : Nat} (h : ¬ u < 10) : decDigits u = decDigits (u / 10) ++ [UInt8.ofNat (48 + u % 10)] := by
  conv => lhs; rw [decDigits]
  rw [dif_neg h]
theorem dec_small {u : Nat} (h : u < 10) : decDigits u = [UInt8.ofNat (48 + u)] := decDigits_one h
theorem dec_rec {P : Nat → Prop} (h1 : ∀ u, u < 10 → P u) (h2 : ∀ u, ¬ u < 10 → P (u / 10) → P u) : ∀ u, P u := fun u => by
  induction u using Nat.strongRecOn with
  | _ u ih =>
    by_cases h : u < 10
    · exact h1 u h
    · exact h2 u h (ih _ (by omega))
theorem byte_nat {d : Nat} (h : d < 10) : (UInt8.ofNat (48 + d)).toNat = 48 + d := by
  rw [UInt8.toNat_ofNat']; omega
theorem dec_ne (u : Nat) : 1 ≤ (decDigits u).length := by
  by_cases h : u < 10
  · rw [dec_small h]; simp
  · rw [dec_big h]; simp
theorem dec_dig : ∀ u, (decDigits u).all dig = true := dec_rec
  (fun u h => by
    rw [dec_small h]
    simp only [List.all_cons, List.all_nil, Bool.and_true, dig, byte_nat h, Bool.and_eq_true, decide_eq_true_eq]; omega)
  (fun u h ih => by
    rw [dec_big h, List.all_append, ih, Bool.true_and]
    simp only [List.all_cons, List.all_nil, Bool.and_true, dig, byte_nat (d := u % 10) (by omega), Bool.and_eq_true, decide_eq_true_eq]; omega)
theorem numV_snoc (l : List UInt8) (c : UInt8) : numV (l ++ [c]) = 10 * numV l + (c.toNat - 48) := by
  rw [numV, List.foldl_append]; rfl
theorem dec_num : ∀ u, numV (decDigits u) = u := dec_rec
  (fun u h => by
    rw [dec_small h]
    show 10 * 0 + ((UInt8.ofNat (48 + u)).toNat - 48) = u
    rw [byte_nat h]; omega)
  (fun u h ih => by
    rw [dec_big h, numV_snoc, ih, byte_nat (by omega)]; omega)
theorem dec_len_le : ∀ u, (decDigits u).length ≤ u + 1 := dec_rec
  (fun u h => by rw [dec_small h]; simp)
  (fun u h ih => by rw [dec_big h, List.length_append]; simp; omega)
theorem dec_len {u : Nat} (h : u ≤ 9223372036854775808) : (decDigits u).length ≤ 20 := by
  have key : ∀ k u, u < 10 ^ k → 1 ≤ k → (decDigits u).length ≤ k := by
    intro k
    induction k with
    | zero => intro u _ h; omega
    | succ k ih =>
      intro u hu _
      by_cases h : u < 10
      · rw [dec_small h]; simp
      · rw [dec_big h, List.length_append]
        have hk : 1 ≤ k := by
          cases k with
          | zero => rw [Nat.zero_add, Nat.pow_one] at hu; omega
          | succ k => omega
        have := ih (u / 10) (by rw [Nat.pow_succ] at hu; omega) hk
        rw [List.length_singleton]; omega
  exact key 20 u (Nat.lt_of_le_of_lt h (by decide)) (by decide)
theorem itoa_len {q : Int} (h : -9223372036854775808 ≤ q ∧ q ≤ 9223372036854775807) : (itoa q).length ≤ 21 := by
  unfold itoa; split
  · have := dec_len (u := q.natAbs) (by omega); rw [List.length_cons]; omega
  · have := dec_len (u := q.toNat) (by omega); omega
def okN (q : Int) : Prop := -9223372036854775808 ≤ q ∧ q ≤ 9223372036854775807
theorem deep_int {j : Nat} {H : Heap} {k : IntKind} {m : Int} {x : V} (h : deep H (j + 1) x = some (.int k m)) : x = .int k m := by
  cases x with
  | int k' m' => injection h with h
  | ref id s off len =>
    simp only [deep] at h
    split at h
    · split at h
      · split at h
        · cases h
        · obtain ⟨_, _, h⟩ := Option.map_eq_some_iff.1 h; cases h
      · cases h
    · cases h
  | agg cs => obtain ⟨_, _, h⟩ := Option.map_eq_some_iff.1 h; cases h
  | tup cs => obtain ⟨_, _, h⟩ := Option.map_eq_some_iff.1 h; cases h
  | _ => simp [deep] at h
theorem mapM1 {H : Heap} {xs : List V} {d : V} (h : xs.mapM (deep H 8) = some [d]) : ∃ x, xs = [x] ∧ deep H 8 x = some d := by
  match xs, h with
  | [], h => cases h
  | [x], h =>
    simp only [List.mapM_cons, List.mapM_nil, Option.bind_eq_bind, Option.bind_eq_some_iff, Option.pure_def, Option.some.injEq] at h
    obtain ⟨a, h1, b, h2, h3⟩ := h
    subst h2
    injection h3 with h3 _
    exact ⟨x, rfl, by rw [h1, h3]⟩
  | x :: y :: r, h => have := mapM_len h; simp at this
instance itoa_pc (m : Int) : PCon T0 n.strconv_Itoa [.int .i64 m] false (okN m) (.str (itoa m)) := ⟨fun hn xs H hx _ => by
  obtain ⟨x, rfl, h⟩ := mapM1 hx
  rw [deep_int (j := 7) h]
  refine rowX (g := gItoa) rfl ?_
  simp only [gItoa]
  rw [if_pos (show _ ∧ _ from hn)]⟩
instance num_Put (m : Int) : PCon T0 n.num_Put [.int .i64 m] true (okN m) (.str (itoa m)) := ⟨fun hn => by
  refine pc tabOk ?_
  repeat' first | (apply dr_fin; (focus exact xx)) | (apply dr_gt; (focus exact xx)) | (apply dr_gf; (focus exact xx); (focus first | exact .inl rfl | exact .inr rfl); focus (first | exact InD.no | (apply InD.so; (focus exact xx)))) | (apply dr_v; focus (apply DV.mk; (focus exact RF.mk rfl); (focus exact RF.mk rfl); (focus exact RF.mk rfl); (focus exact RF.mk rfl); (focus exact xx); focus (first | exact InD.no | (apply InD.so; (focus exact xx))))) | (apply dr_ve; focus (apply DVE.mk; (focus exact RF.mk rfl); (focus exact RF.mk rfl); (focus exact RF.mk rfl); (focus exact xx); focus (first | exact InD.no | (apply InD.so; (focus exact xx))))) | (apply dr_r; focus (apply DL.mk; (focus exact RF.mk rfl); (focus exact xx); (focus exact xx); focus (first | exact InD.no | (apply InD.so; (focus exact xx))))) | (apply dr_l; (focus exact RF.mk rfl); (focus exact RF.mk rfl); (focus exact RF.mk rfl); (focus exact RF.mk rfl); (focus exact RF.mk rfl)) | (apply dr_e; (focus exact RF.mk rfl); (focus exact RF.mk rfl); (focus exact RF.mk rfl); (focus exact RF.mk rfl)) | (apply rd_e; (focus exact xx); focus (repeat first | exact PO.nil | apply PO.zero | (apply PO.ld; (focus exact xx)))) | (apply rd_l; (focus exact xx)) | refine wh_seq ?_ | refine wh_skip ?_ | refine wh_block ?_ | refine wh_end ?_ | refine wh_exit ?_ | refine wh_ret ?_ | refine bk_norm ?_ | refine bk_exit ?_ | refine bk_ret ?_ | refine fr_exit ?_ | refine fr_ret ?_ | refine lp_exit ?_ | refine lp_ret ?_ | refine jn_exit ?_ | refine jn_ret ?_ | refine bk_other rfl ?_ | (apply wr; focus exact xx) | (apply wi; (focus exact xx); (focus exact xx); all_goals intro _; all_goals try first | contradiction | (exfalso; omega) | exact absurd trivial ‹_›) | refine wh_reg ?_ | refine wh_ife ?_ | (apply re; focus exact xx) | (apply rf; (focus exact xx); (focus exact xx); all_goals intro _; all_goals try first | contradiction | (exfalso; omega) | exact absurd trivial ‹_›) | (apply ra; (focus exact xx); (focus exact xx); intro _) | (apply r1; (focus exact xx); (focus exact xx); intro _) | (apply rl; (focus exact xx); (focus exact xx); intro _) | (apply rb; (focus exact xx); (focus exact xx); intro _) | (apply rsi; (focus exact xx); (focus exact xx); all_goals try infer_instance) | (apply rsz; (focus exact xx); (focus exact xx); all_goals try infer_instance) | (apply rt; (focus exact xx); (focus exact xx)) | (apply rso; (focus exact xx); (focus exact xx); all_goals try infer_instance) | (apply rmm; (focus exact xx); intro _) | (apply rsb; (focus exact xx); (focus exact xx)) | (apply ru; (focus exact xx); (focus exact xx)) | (apply rm; (focus exact xx); (focus exact xx); intro _) | (apply rk; (focus exact xx); (focus exact xx); intro _) | (apply rcf; (focus exact xx); (focus (apply ACF.mk; (focus exact xx); (focus exact inferInstance); (focus exact xx); (focus exact inferInstance); (focus exact xx); (focus exact rfl)))) | (apply rco; (focus exact xx); (focus (apply ACO.mk; (focus exact xx); (focus exact xx); (focus exact inferInstance); (focus exact xx); (focus exact xx))); intro _) | (apply rc; (focus exact xx); (focus exact xx)) | (apply rk'; (focus exact xx); (focus exact xx))
  exact fz rfl⟩
theorem td_abs (K : Int) : (K.tdiv 10).natAbs = K.natAbs / 10 ∧ (K.tmod 10).natAbs = K.natAbs % 10 := by
  refine ⟨Int.natAbs_tdiv K 10, ?_⟩
  rw [Int.natAbs_tmod]; rfl
set_option maxHeartbeats 1000000 in
instance ref05_Put (m : Int) : PCon T0 n.ref05_Put [.int .i64 m] true (okN m) (.str (itoa m)) := ⟨fun hn => by
  obtain ⟨hn1, hn2⟩ := hn
  have hdl := dec_len (u := m.natAbs) (by omega)
  refine pc tabOk ?_
  repeat' first | (apply dr_fin; (focus exact xx)) | (apply dr_gt; (focus exact xx)) | (apply dr_gf; (focus exact xx); (focus first | exact .inl rfl | exact .inr rfl); focus (first | exact InD.no | (apply InD.so; (focus exact xx)))) | (apply dr_v; focus (apply DV.mk; (focus exact RF.mk rfl); (focus exact RF.mk rfl); (focus exact RF.mk rfl); (focus exact RF.mk rfl); (focus exact xx); focus (first | exact InD.no | (apply InD.so; (focus exact xx))))) | (apply dr_ve; focus (apply DVE.mk; (focus exact RF.mk rfl); (focus exact RF.mk rfl); (focus exact RF.mk rfl); (focus exact xx); focus (first | exact InD.no | (apply InD.so; (focus exact xx))))) | (apply dr_r; focus (apply DL.mk; (focus exact RF.mk rfl); (focus exact xx); (focus exact xx); focus (first | exact InD.no | (apply InD.so; (focus exact xx))))) | (apply dr_l; (focus exact RF.mk rfl); (focus exact RF.mk rfl); (focus exact RF.mk rfl); (focus exact RF.mk rfl); (focus exact RF.mk rfl)) | (apply dr_e; (focus exact RF.mk rfl); (focus exact RF.mk rfl); (focus exact RF.mk rfl); (focus exact RF.mk rfl)) | (apply rd_e; (focus exact xx); focus (repeat first | exact PO.nil | apply PO.zero | (apply PO.ld; (focus exact xx)))) | (apply rd_l; (focus exact xx)) | refine wh_seq ?_ | refine wh_skip ?_ | refine wh_block ?_ | refine wh_end ?_ | refine wh_exit ?_ | refine wh_ret ?_ | refine bk_norm ?_ | refine bk_exit ?_ | refine bk_ret ?_ | refine fr_exit ?_ | refine fr_ret ?_ | refine lp_exit ?_ | refine lp_ret ?_ | refine jn_exit ?_ | refine jn_ret ?_ | refine bk_other rfl ?_ | (apply wr; focus exact xx) | (apply wi; (focus exact xx); (focus exact xx); all_goals intro _; all_goals try first | contradiction | (exfalso; omega) | exact absurd trivial ‹_›) | refine wh_reg ?_ | refine wh_ife ?_ | (apply re; focus exact xx) | (apply rf; (focus exact xx); (focus exact xx); all_goals intro _; all_goals try first | contradiction | (exfalso; omega) | exact absurd trivial ‹_›) | (apply ra; (focus exact xx); (focus exact xx); intro _) | (apply r1; (focus exact xx); (focus exact xx); intro _) | (apply rl; (focus exact xx); (focus exact xx); intro _) | (apply rb; (focus exact xx); (focus exact xx); intro _) | (apply rsi; (focus exact xx); (focus exact xx); all_goals try infer_instance) | (apply rsz; (focus exact xx); (focus exact xx); all_goals try infer_instance) | (apply rt; (focus exact xx); (focus exact xx)) | (apply rso; (focus exact xx); (focus exact xx); all_goals try infer_instance) | (apply rmm; (focus exact xx); intro _) | (apply rsb; (focus exact xx); (focus exact xx)) | (apply ru; (focus exact xx); (focus exact xx)) | (apply rm; (focus exact xx); (focus exact xx); intro _) | (apply rk; (focus exact xx); (focus exact xx); intro _) | (apply rcf; (focus exact xx); (focus (apply ACF.mk; (focus exact xx); (focus exact inferInstance); (focus exact xx); (focus exact inferInstance); (focus exact xx); (focus exact rfl)))) | (apply rco; (focus exact xx); (focus (apply ACO.mk; (focus exact xx); (focus exact xx); (focus exact inferInstance); (focus exact xx); (focus exact xx))); intro _) | (apply rc; (focus exact xx); (focus exact xx)) | (apply rk'; (focus exact xx); (focus exact xx))
  refine wh_loop (fun j A L => ∃ (K : Int) (t : List UInt8), j = K.natAbs ∧ -9223372036854775808 ≤ K ∧ K ≤ 9223372036854775807 ∧ decDigits m.natAbs = decDigits K.natAbs ++ t ∧ A = [(0, .int .i64 m), (3, .str t), (4, .int .i64 K)] ∧ L = []) _ ⟨m, [], rfl, hn1, hn2, by rw [List.append_nil], rfl, rfl⟩ ?_
  rintro j A L ⟨K, t, rfl, hK1, hK2, hD, rfl, rfl⟩
  obtain ⟨hq, hr⟩ := td_abs K
  have htl : t.length ≤ 20 := by rw [hD, List.length_append] at hdl; omega
  have hqb : -9223372036854775808 ≤ K.tdiv 10 ∧ K.tdiv 10 ≤ 9223372036854775807 := by omega
  have hw : WR .i64 (K.tdiv 10) (K.tdiv 10) := ⟨w64 hqb⟩
  have hw1 : WR .i64 (0 - K.tmod 10) (0 - K.tmod 10) := ⟨w64 (by omega)⟩
  repeat' first | (apply dr_fin; (focus exact xx)) | (apply dr_gt; (focus exact xx)) | (apply dr_gf; (focus exact xx); (focus first | exact .inl rfl | exact .inr rfl); focus (first | exact InD.no | (apply InD.so; (focus exact xx)))) | (apply dr_v; focus (apply DV.mk; (focus exact RF.mk rfl); (focus exact RF.mk rfl); (focus exact RF.mk rfl); (focus exact RF.mk rfl); (focus exact xx); focus (first | exact InD.no | (apply InD.so; (focus exact xx))))) | (apply dr_ve; focus (apply DVE.mk; (focus exact RF.mk rfl); (focus exact RF.mk rfl); (focus exact RF.mk rfl); (focus exact xx); focus (first | exact InD.no | (apply InD.so; (focus exact xx))))) | (apply dr_r; focus (apply DL.mk; (focus exact RF.mk rfl); (focus exact xx); (focus exact xx); focus (first | exact InD.no | (apply InD.so; (focus exact xx))))) | (apply dr_l; (focus exact RF.mk rfl); (focus exact RF.mk rfl); (focus exact RF.mk rfl); (focus exact RF.mk rfl); (focus exact RF.mk rfl)) | (apply dr_e; (focus exact RF.mk rfl); (focus exact RF.mk rfl); (focus exact RF.mk rfl); (focus exact RF.mk rfl)) | (apply rd_e; (focus exact xx); focus (repeat first | exact PO.nil | apply PO.zero | (apply PO.ld; (focus exact xx)))) | (apply rd_l; (focus exact xx)) | refine wh_seq ?_ | refine wh_skip ?_ | refine wh_block ?_ | refine wh_end ?_ | refine wh_exit ?_ | refine wh_ret ?_ | refine bk_norm ?_ | refine bk_exit ?_ | refine bk_ret ?_ | refine fr_exit ?_ | refine fr_ret ?_ | refine lp_exit ?_ | refine lp_ret ?_ | refine jn_exit ?_ | refine jn_ret ?_ | refine bk_other rfl ?_ | (apply wr; focus exact xx) | refine wh_reg ?_ | (apply re; focus exact xx) | (apply ra; (focus exact xx); (focus exact xx); intro _) | (apply r1; (focus exact xx); (focus exact xx); intro _) | (apply rl; (focus exact xx); (focus exact xx); intro _) | (apply rb; (focus exact xx); (focus exact xx); intro _) | (apply rsi; (focus exact xx); (focus exact xx); all_goals try infer_instance) | (apply rsz; (focus exact xx); (focus exact xx); all_goals try infer_instance) | (apply rt; (focus exact xx); (focus exact xx)) | (apply rso; (focus exact xx); (focus exact xx); all_goals try infer_instance) | (apply rmm; (focus exact xx); intro _) | (apply rsb; (focus exact xx); (focus exact xx)) | (apply ru; (focus exact xx); (focus exact xx)) | (apply rm; (focus exact xx); (focus exact xx); intro _) | (apply rk; (focus exact xx); (focus exact xx); intro _) | (apply rcf; (focus exact xx); (focus (apply ACF.mk; (focus exact xx); (focus exact inferInstance); (focus exact xx); (focus exact inferInstance); (focus exact xx); (focus exact rfl)))) | (apply rco; (focus exact xx); (focus (apply ACO.mk; (focus exact xx); (focus exact xx); (focus exact inferInstance); (focus exact xx); (focus exact xx))); intro _) | (apply rc; (focus exact xx); (focus exact xx)) | (apply rk'; (focus exact xx); (focus exact xx))
  refine wh_cat (fun A L => A = [(0, .int .i64 m), (3, .str t), (4, .int .i64 K), (5, .int .i64 ((K.natAbs % 10 : Nat) : Int))] ∧ L = []) ?_ ?_
  · repeat' first | (apply dr_fin; (focus exact xx)) | (apply dr_gt; (focus exact xx)) | (apply dr_gf; (focus exact xx); (focus first | exact .inl rfl | exact .inr rfl); focus (first | exact InD.no | (apply InD.so; (focus exact xx)))) | (apply dr_v; focus (apply DV.mk; (focus exact RF.mk rfl); (focus exact RF.mk rfl); (focus exact RF.mk rfl); (focus exact RF.mk rfl); (focus exact xx); focus (first | exact InD.no | (apply InD.so; (focus exact xx))))) | (apply dr_ve; focus (apply DVE.mk; (focus exact RF.mk rfl); (focus exact RF.mk rfl); (focus exact RF.mk rfl); (focus exact xx); focus (first | exact InD.no | (apply InD.so; (focus exact xx))))) | (apply dr_r; focus (apply DL.mk; (focus exact RF.mk rfl); (focus exact xx); (focus exact xx); focus (first | exact InD.no | (apply InD.so; (focus exact xx))))) | (apply dr_l; (focus exact RF.mk rfl); (focus exact RF.mk rfl); (focus exact RF.mk rfl); (focus exact RF.mk rfl); (focus exact RF.mk rfl)) | (apply dr_e; (focus exact RF.mk rfl); (focus exact RF.mk rfl); (focus exact RF.mk rfl); (focus exact RF.mk rfl)) | (apply rd_e; (focus exact xx); focus (repeat first | exact PO.nil | apply PO.zero | (apply PO.ld; (focus exact xx)))) | (apply rd_l; (focus exact xx)) | refine wh_seq ?_ | refine wh_skip ?_ | refine wh_block ?_ | refine wh_end ?_ | refine wh_exit ?_ | refine wh_ret ?_ | refine bk_norm ?_ | refine bk_exit ?_ | refine bk_ret ?_ | refine fr_exit ?_ | refine fr_ret ?_ | refine lp_exit ?_ | refine lp_ret ?_ | refine jn_exit ?_ | refine jn_ret ?_ | refine bk_other rfl ?_ | (apply wr; focus exact xx) | (apply wi; (focus exact xx); (focus exact xx); all_goals intro _; all_goals try first | contradiction | (exfalso; omega) | exact absurd trivial ‹_›) | refine wh_reg ?_ | refine wh_ife ?_ | (apply re; focus exact xx) | (apply rf; (focus exact xx); (focus exact xx); all_goals intro _; all_goals try first | contradiction | (exfalso; omega) | exact absurd trivial ‹_›) | (apply ra; (focus exact xx); (focus exact xx); intro _) | (apply r1; (focus exact xx); (focus exact xx); intro _) | (apply rl; (focus exact xx); (focus exact xx); intro _) | (apply rb; (focus exact xx); (focus exact xx); intro _) | (apply rsi; (focus exact xx); (focus exact xx); all_goals try infer_instance) | (apply rsz; (focus exact xx); (focus exact xx); all_goals try infer_instance) | (apply rt; (focus exact xx); (focus exact xx)) | (apply rso; (focus exact xx); (focus exact xx); all_goals try infer_instance) | (apply rmm; (focus exact xx); intro _) | (apply rsb; (focus exact xx); (focus exact xx)) | (apply ru; (focus exact xx); (focus exact xx)) | (apply rm; (focus exact xx); (focus exact xx); intro _) | (apply rk; (focus exact xx); (focus exact xx); intro _) | (apply rcf; (focus exact xx); (focus (apply ACF.mk; (focus exact xx); (focus exact inferInstance); (focus exact xx); (focus exact inferInstance); (focus exact xx); (focus exact rfl)))) | (apply rco; (focus exact xx); (focus (apply ACO.mk; (focus exact xx); (focus exact xx); (focus exact inferInstance); (focus exact xx); (focus exact xx))); intro _) | (apply rc; (focus exact xx); (focus exact xx)) | (apply rk'; (focus exact xx); (focus exact xx))
    · rename_i h
      exact ⟨by rw [show 0 - K.tmod 10 = ((K.natAbs % 10 : Nat) : Int) by omega], rfl⟩
    · rename_i h
      exact ⟨by rw [show K.tmod 10 = ((K.natAbs % 10 : Nat) : Int) by omega], rfl⟩
  rintro _ _ ⟨rfl, rfl⟩
  have hw2 : WR .u8 (48 + ((K.natAbs % 10 : Nat) : Int)) ((48 + K.natAbs % 10 : Nat) : Int) := ⟨by rw [IntKind.wrap_u8]; omega⟩
  have hb : UInt8.ofNat (((48 + K.natAbs % 10 : Nat) : Int)).toNat = UInt8.ofNat (48 + K.natAbs % 10) := by rw [Int.toNat_natCast]
  have hend : K.tdiv 10 = 0 → decDigits m.natAbs = [UInt8.ofNat (48 + K.natAbs % 10)] ++ t := fun h0 => by
    have h1 : K.natAbs < 10 := by rw [h0] at hq; simp at hq; omega
    rw [hD, dec_small h1, Nat.mod_eq_of_lt h1]
  repeat' first | (apply dr_fin; (focus exact xx)) | (apply dr_gt; (focus exact xx)) | (apply dr_gf; (focus exact xx); (focus first | exact .inl rfl | exact .inr rfl); focus (first | exact InD.no | (apply InD.so; (focus exact xx)))) | (apply dr_v; focus (apply DV.mk; (focus exact RF.mk rfl); (focus exact RF.mk rfl); (focus exact RF.mk rfl); (focus exact RF.mk rfl); (focus exact xx); focus (first | exact InD.no | (apply InD.so; (focus exact xx))))) | (apply dr_ve; focus (apply DVE.mk; (focus exact RF.mk rfl); (focus exact RF.mk rfl); (focus exact RF.mk rfl); (focus exact xx); focus (first | exact InD.no | (apply InD.so; (focus exact xx))))) | (apply dr_r; focus (apply DL.mk; (focus exact RF.mk rfl); (focus exact xx); (focus exact xx); focus (first | exact InD.no | (apply InD.so; (focus exact xx))))) | (apply dr_l; (focus exact RF.mk rfl); (focus exact RF.mk rfl); (focus exact RF.mk rfl); (focus exact RF.mk rfl); (focus exact RF.mk rfl)) | (apply dr_e; (focus exact RF.mk rfl); (focus exact RF.mk rfl); (focus exact RF.mk rfl); (focus exact RF.mk rfl)) | (apply rd_e; (focus exact xx); focus (repeat first | exact PO.nil | apply PO.zero | (apply PO.ld; (focus exact xx)))) | (apply rd_l; (focus exact xx)) | refine wh_seq ?_ | refine wh_skip ?_ | refine wh_block ?_ | refine wh_end ?_ | refine wh_exit ?_ | refine wh_ret ?_ | refine bk_norm ?_ | refine bk_exit ?_ | refine bk_ret ?_ | refine fr_exit ?_ | refine fr_ret ?_ | refine lp_exit ?_ | refine lp_ret ?_ | refine jn_exit ?_ | refine jn_ret ?_ | refine bk_other rfl ?_ | (apply wr; focus exact xx) | (apply wi; (focus exact xx); (focus exact xx); all_goals intro _; all_goals try first | contradiction | (exfalso; omega) | exact absurd trivial ‹_›) | refine wh_reg ?_ | refine wh_ife ?_ | (apply re; focus exact xx) | (apply rf; (focus exact xx); (focus exact xx); all_goals intro _; all_goals try first | contradiction | (exfalso; omega) | exact absurd trivial ‹_›) | (apply ra; (focus exact xx); (focus exact xx); intro _) | (apply r1; (focus exact xx); (focus exact xx); intro _) | (apply rl; (focus exact xx); (focus exact xx); intro _) | (apply rb; (focus exact xx); (focus exact xx); intro _) | (apply rsi; (focus exact xx); (focus exact xx); all_goals try infer_instance) | (apply rsz; (focus exact xx); (focus exact xx); all_goals try infer_instance) | (apply rt; (focus exact xx); (focus exact xx)) | (apply rso; (focus exact xx); (focus exact xx); all_goals try infer_instance) | (apply rmm; (focus exact xx); intro _) | (apply rsb; (focus exact xx); (focus exact xx)) | (apply ru; (focus exact xx); (focus exact xx)) | (apply rm; (focus exact xx); (focus exact xx); intro _) | (apply rk; (focus exact xx); (focus exact xx); intro _) | (apply rcf; (focus exact xx); (focus (apply ACF.mk; (focus exact xx); (focus exact inferInstance); (focus exact xx); (focus exact inferInstance); (focus exact xx); (focus exact rfl)))) | (apply rco; (focus exact xx); (focus (apply ACO.mk; (focus exact xx); (focus exact xx); (focus exact inferInstance); (focus exact xx); (focus exact xx))); intro _) | (apply rc; (focus exact xx); (focus exact xx)) | (apply rk'; (focus exact xx); (focus exact xx))
  · rename_i h0 h
    refine fz ?_
    rw [hb, itoa, if_pos h, hend h0]; rfl
  · rename_i h0 h
    refine fz ?_
    rw [hb, itoa, if_neg h, show m.toNat = m.natAbs by omega, hend h0]
  · rename_i h0
    have h1 : ¬ K.natAbs < 10 := fun h1 => h0 (by omega)
    refine ⟨_, _, ?_, .of (List.nil_sublist _), K.tdiv 10, _, rfl, hqb.1, hqb.2, ?_, rfl, rfl⟩
    · omega
    · rw [hD, dec_big h1, hq, hb, List.append_assoc]⟩
end Go.AM

