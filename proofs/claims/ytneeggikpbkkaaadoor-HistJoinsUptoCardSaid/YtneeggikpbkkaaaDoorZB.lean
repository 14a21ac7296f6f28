/- Part ZB of the proof. -/
import Derived.Test.YtneeggikpbkkaaaDoorZA
import Derived.Test.YtneeggikpbkkaaaDoorA3
set_option linter.unusedVariables false
set_option linter.unusedSimpArgs false
namespace Go.AM
attribute [-simp] List.length_flatten List.map_flatten List.map_take List.map_map List.flatten_append
theorem eOp_inj {t u : Op} : ([V.bool t.w, .str t.v, .int .i64 t.x] = [V.bool u.w, .str u.v, .int .i64 u.x]) ↔ t = u := by
  cases t; cases u; simp
section
variable {α : Type} [Inhabited α] {a b : List α} {i : Nat}
theorem eq_step (hl : a.length = b.length) (hi : i < a.length) (h : a.take i = b.take i) (he : nth a i = nth b i) : a.take (i + 1) = b.take (i + 1) := by
  rw [take_nth hi, take_nth (by omega), h, he]
omit [Inhabited α] in
theorem eq_end (hl : a.length = b.length) (hi : i = a.length) (h : a.take i = b.take i) : a = b := by
  rw [hi, List.take_length, hl, List.take_length] at h; exact h
theorem ne_at (he : ¬ nth a i = nth b i) : ¬ a = b := fun h => he (by rw [h])
omit [Inhabited α] in
theorem ne_len (he : ¬ a.length = b.length) : ¬ a = b := fun h => he (by rw [h])
end
theorem ff {p : Prop} [Decidable p] (h : ¬ p) : V.bool false = V.bool (decide p) := by rw [decide_eq_false h]
theorem tt {p : Prop} [Decidable p] (h : p) : V.bool true = V.bool (decide p) := by rw [decide_eq_true h]
instance ref06_Same (a b : List (List Op)) : PCon T0 n.ref06_Same [eH a, eH b] false (hb a) (.bool (decide (a = b))) := ⟨fun ⟨h1, h2⟩ => by
  refine pc tabOk ?_
  repeat' first | (apply dr_fin; (focus exact xx)) | (apply dr_gt; (focus exact xx)) | (apply dr_gf; (focus exact xx); (focus first | exact .inl rfl | exact .inr rfl); focus (first | exact InD.no | (apply InD.so; (focus exact xx)))) | (apply dr_v; focus (apply DV.mk; (focus exact RF.mk rfl); (focus exact RF.mk rfl); (focus exact RF.mk rfl); (focus exact RF.mk rfl); (focus exact xx); focus (first | exact InD.no | (apply InD.so; (focus exact xx))))) | (apply dr_ve; focus (apply DVE.mk; (focus exact RF.mk rfl); (focus exact RF.mk rfl); (focus exact RF.mk rfl); (focus exact xx); focus (first | exact InD.no | (apply InD.so; (focus exact xx))))) | (apply dr_r; focus (apply DL.mk; (focus exact RF.mk rfl); (focus exact xx); (focus exact xx); focus (first | exact InD.no | (apply InD.so; (focus exact xx))))) | (apply dr_l; (focus exact RF.mk rfl); (focus exact RF.mk rfl); (focus exact RF.mk rfl); (focus exact RF.mk rfl); (focus exact RF.mk rfl)) | (apply dr_e; (focus exact RF.mk rfl); (focus exact RF.mk rfl); (focus exact RF.mk rfl); (focus exact RF.mk rfl)) | (apply rd_e; (focus exact xx); focus (repeat first | exact PO.nil | apply PO.zero | (apply PO.ld; (focus exact xx)))) | (apply rd_l; (focus exact xx)) | refine wh_seq ?_ | refine wh_skip ?_ | refine wh_block ?_ | refine wh_end ?_ | refine wh_exit ?_ | refine wh_ret ?_ | refine bk_norm ?_ | refine bk_exit ?_ | refine bk_ret ?_ | refine fr_exit ?_ | refine fr_ret ?_ | refine lp_exit ?_ | refine lp_ret ?_ | refine jn_exit ?_ | refine jn_ret ?_ | refine bk_other rfl ?_ | (apply wr; focus exact xx) | (apply wi; (focus exact xx); (focus exact xx); all_goals intro _; all_goals try first | contradiction | (exfalso; omega) | exact absurd trivial ‹_›) | refine wh_reg ?_ | refine wh_ife ?_ | (apply re; focus exact xx) | (apply rf; (focus exact xx); (focus exact xx); all_goals intro _; all_goals try first | contradiction | (exfalso; omega) | exact absurd trivial ‹_›) | (apply ra; (focus exact xx); (focus exact xx); intro _) | (apply r1; (focus exact xx); (focus exact xx); intro _) | (apply rl; (focus exact xx); (focus exact xx); intro _) | (apply rb; (focus exact xx); (focus exact xx); intro _) | (apply rsi; (focus exact xx); (focus exact xx); all_goals try infer_instance) | (apply rsz; (focus exact xx); (focus exact xx); all_goals try infer_instance) | (apply rt; (focus exact xx); (focus exact xx)) | (apply rso; (focus exact xx); (focus exact xx); all_goals try infer_instance) | (apply rmm; (focus exact xx); intro _) | (apply rsb; (focus exact xx); (focus exact xx)) | (apply ru; (focus exact xx); (focus exact xx)) | (apply rm; (focus exact xx); (focus exact xx); intro _) | (apply rk; (focus exact xx); (focus exact xx); intro _) | (apply rcf; (focus exact xx); (focus (apply ACF.mk; (focus exact xx); (focus exact inferInstance); (focus exact xx); (focus exact inferInstance); (focus exact xx); (focus exact rfl)))) | (apply rco; (focus exact xx); (focus (apply ACO.mk; (focus exact xx); (focus exact xx); (focus exact inferInstance); (focus exact xx); (focus exact xx))); intro _) | (apply rc; (focus exact xx); (focus exact xx)) | (apply rk'; (focus exact xx); (focus exact xx))
  · exact fz (ff (ne_len (by omega)))
  refine wh_count a.length (fun i A L => A = [(0, eH a), (1, eH b), (5, .int .i64 (i : Nat))] ∧ L = [] ∧ a.take i = b.take i) ⟨rfl, rfl, rfl⟩ ?_
  rintro i A L hi ⟨rfl, rfl, ha⟩
  have hl := @flat_len _ a i
  repeat' first | (apply dr_fin; (focus exact xx)) | (apply dr_gt; (focus exact xx)) | (apply dr_gf; (focus exact xx); (focus first | exact .inl rfl | exact .inr rfl); focus (first | exact InD.no | (apply InD.so; (focus exact xx)))) | (apply dr_v; focus (apply DV.mk; (focus exact RF.mk rfl); (focus exact RF.mk rfl); (focus exact RF.mk rfl); (focus exact RF.mk rfl); (focus exact xx); focus (first | exact InD.no | (apply InD.so; (focus exact xx))))) | (apply dr_ve; focus (apply DVE.mk; (focus exact RF.mk rfl); (focus exact RF.mk rfl); (focus exact RF.mk rfl); (focus exact xx); focus (first | exact InD.no | (apply InD.so; (focus exact xx))))) | (apply dr_r; focus (apply DL.mk; (focus exact RF.mk rfl); (focus exact xx); (focus exact xx); focus (first | exact InD.no | (apply InD.so; (focus exact xx))))) | (apply dr_l; (focus exact RF.mk rfl); (focus exact RF.mk rfl); (focus exact RF.mk rfl); (focus exact RF.mk rfl); (focus exact RF.mk rfl)) | (apply dr_e; (focus exact RF.mk rfl); (focus exact RF.mk rfl); (focus exact RF.mk rfl); (focus exact RF.mk rfl)) | (apply rd_e; (focus exact xx); focus (repeat first | exact PO.nil | apply PO.zero | (apply PO.ld; (focus exact xx)))) | (apply rd_l; (focus exact xx)) | refine wh_seq ?_ | refine wh_skip ?_ | refine wh_block ?_ | refine wh_end ?_ | refine wh_exit ?_ | refine wh_ret ?_ | refine bk_norm ?_ | refine bk_exit ?_ | refine bk_ret ?_ | refine fr_exit ?_ | refine fr_ret ?_ | refine lp_exit ?_ | refine lp_ret ?_ | refine jn_exit ?_ | refine jn_ret ?_ | refine bk_other rfl ?_ | (apply wr; focus exact xx) | (apply wi; (focus exact xx); (focus exact xx); all_goals intro _; all_goals try first | contradiction | (exfalso; omega) | exact absurd trivial ‹_›) | refine wh_reg ?_ | refine wh_ife ?_ | (apply re; focus exact xx) | (apply rf; (focus exact xx); (focus exact xx); all_goals intro _; all_goals try first | contradiction | (exfalso; omega) | exact absurd trivial ‹_›) | (apply ra; (focus exact xx); (focus exact xx); intro _) | (apply r1; (focus exact xx); (focus exact xx); intro _) | (apply rl; (focus exact xx); (focus exact xx); intro _) | (apply rb; (focus exact xx); (focus exact xx); intro _) | (apply rsi; (focus exact xx); (focus exact xx); all_goals try infer_instance) | (apply rsz; (focus exact xx); (focus exact xx); all_goals try infer_instance) | (apply rt; (focus exact xx); (focus exact xx)) | (apply rso; (focus exact xx); (focus exact xx); all_goals try infer_instance) | (apply rmm; (focus exact xx); intro _) | (apply rsb; (focus exact xx); (focus exact xx)) | (apply ru; (focus exact xx); (focus exact xx)) | (apply rm; (focus exact xx); (focus exact xx); intro _) | (apply rk; (focus exact xx); (focus exact xx); intro _) | (apply rcf; (focus exact xx); (focus (apply ACF.mk; (focus exact xx); (focus exact inferInstance); (focus exact xx); (focus exact inferInstance); (focus exact xx); (focus exact rfl)))) | (apply rco; (focus exact xx); (focus (apply ACO.mk; (focus exact xx); (focus exact xx); (focus exact inferInstance); (focus exact xx); (focus exact xx))); intro _) | (apply rc; (focus exact xx); (focus exact xx)) | (apply rk'; (focus exact xx); (focus exact xx))
  · exact fz (ff (ne_at (i := i) (ne_len (by omega))))
  · refine wh_count (nth a i).length (fun k A L => A = [(0, eH a), (1, eH b), (5, .int .i64 (i : Nat)), (6, .int .i64 (k : Nat))] ∧ L = [] ∧ (nth a i).take k = (nth b i).take k) ⟨rfl, rfl, rfl⟩ ?_
    rintro k A L hk ⟨rfl, rfl, hb⟩
    repeat' first | (apply dr_fin; (focus exact xx)) | (apply dr_gt; (focus exact xx)) | (apply dr_gf; (focus exact xx); (focus first | exact .inl rfl | exact .inr rfl); focus (first | exact InD.no | (apply InD.so; (focus exact xx)))) | (apply dr_v; focus (apply DV.mk; (focus exact RF.mk rfl); (focus exact RF.mk rfl); (focus exact RF.mk rfl); (focus exact RF.mk rfl); (focus exact xx); focus (first | exact InD.no | (apply InD.so; (focus exact xx))))) | (apply dr_ve; focus (apply DVE.mk; (focus exact RF.mk rfl); (focus exact RF.mk rfl); (focus exact RF.mk rfl); (focus exact xx); focus (first | exact InD.no | (apply InD.so; (focus exact xx))))) | (apply dr_r; focus (apply DL.mk; (focus exact RF.mk rfl); (focus exact xx); (focus exact xx); focus (first | exact InD.no | (apply InD.so; (focus exact xx))))) | (apply dr_l; (focus exact RF.mk rfl); (focus exact RF.mk rfl); (focus exact RF.mk rfl); (focus exact RF.mk rfl); (focus exact RF.mk rfl)) | (apply dr_e; (focus exact RF.mk rfl); (focus exact RF.mk rfl); (focus exact RF.mk rfl); (focus exact RF.mk rfl)) | (apply rd_e; (focus exact xx); focus (repeat first | exact PO.nil | apply PO.zero | (apply PO.ld; (focus exact xx)))) | (apply rd_l; (focus exact xx)) | refine wh_seq ?_ | refine wh_skip ?_ | refine wh_block ?_ | refine wh_end ?_ | refine wh_exit ?_ | refine wh_ret ?_ | refine bk_norm ?_ | refine bk_exit ?_ | refine bk_ret ?_ | refine fr_exit ?_ | refine fr_ret ?_ | refine lp_exit ?_ | refine lp_ret ?_ | refine jn_exit ?_ | refine jn_ret ?_ | refine bk_other rfl ?_ | (apply wr; focus exact xx) | (apply wi; (focus exact xx); (focus exact xx); all_goals intro _; all_goals try first | contradiction | (exfalso; omega) | exact absurd trivial ‹_›) | refine wh_reg ?_ | refine wh_ife ?_ | (apply re; focus exact xx) | (apply rf; (focus exact xx); (focus exact xx); all_goals intro _; all_goals try first | contradiction | (exfalso; omega) | exact absurd trivial ‹_›) | (apply ra; (focus exact xx); (focus exact xx); intro _) | (apply r1; (focus exact xx); (focus exact xx); intro _) | (apply rl; (focus exact xx); (focus exact xx); intro _) | (apply rb; (focus exact xx); (focus exact xx); intro _) | (apply rsi; (focus exact xx); (focus exact xx); all_goals try infer_instance) | (apply rsz; (focus exact xx); (focus exact xx); all_goals try infer_instance) | (apply rt; (focus exact xx); (focus exact xx)) | (apply rso; (focus exact xx); (focus exact xx); all_goals try infer_instance) | (apply rmm; (focus exact xx); intro _) | (apply rsb; (focus exact xx); (focus exact xx)) | (apply ru; (focus exact xx); (focus exact xx)) | (apply rm; (focus exact xx); (focus exact xx); intro _) | (apply rk; (focus exact xx); (focus exact xx); intro _) | (apply rcf; (focus exact xx); (focus (apply ACF.mk; (focus exact xx); (focus exact inferInstance); (focus exact xx); (focus exact inferInstance); (focus exact xx); (focus exact rfl)))) | (apply rco; (focus exact xx); (focus (apply ACO.mk; (focus exact xx); (focus exact xx); (focus exact inferInstance); (focus exact xx); (focus exact xx))); intro _) | (apply rc; (focus exact xx); (focus exact xx)) | (apply rk'; (focus exact xx); (focus exact xx))
    · rename_i h; rw [eOp_inj] at h; exact fz (ff (ne_at (i := i) (ne_at h)))
    · rename_i h; rw [eOp_inj, Decidable.not_not] at h; exact fr_next (by omega) sbc ⟨rfl, rfl, eq_step (by omega) (by omega) hb h⟩
    · exact fr_next (by omega) sbc ⟨rfl, rfl, eq_step (by omega) (by omega) ha (eq_end (by omega) (by omega) hb)⟩
  · exact fz (tt (eq_end (by omega) (by omega) ha))⟩
/-- Where the i-th operation stands, from session s on. -/
def spotF : List (List Op) → Nat → Int → Option (Nat × Int)
  | [], _, _ => none
  | l :: r, s, i => if i < l.length then some (s, i) else spotF r (s + 1) (i - l.length)
@[reducible] def eSpot (s i : Int) : V := .agg [.int .i64 s, .int .i64 i]
def spotV (o : Option (Nat × Int)) : V := match o with
  | some (s, i) => .tup [eSpot s i, .bool true]
  | none => .tup [eSpot 0 0, .bool false]
theorem drop_nth {α : Type} [Inhabited α] {l : List α} {i : Nat} (h : i < l.length) : l.drop i = nth l i :: l.drop (i + 1) := by
  rw [nth_eq h]; exact List.drop_eq_getElem_cons h
instance ref06_Spot (h : List (List Op)) (i : Int) : PCon T0 n.ref06_Spot [eH h, .int .i64 i] false (hb h ∧ -9223372036854775808 ≤ i ∧ i ≤ 9223372036854775807) (spotV (if i < 0 then none else spotF h 0 i)) := ⟨fun ⟨b, hi⟩ => by
  refine pc tabOk ?_
  have hl := b.1
  repeat' first | (apply dr_fin; (focus exact xx)) | (apply dr_gt; (focus exact xx)) | (apply dr_gf; (focus exact xx); (focus first | exact .inl rfl | exact .inr rfl); focus (first | exact InD.no | (apply InD.so; (focus exact xx)))) | (apply dr_v; focus (apply DV.mk; (focus exact RF.mk rfl); (focus exact RF.mk rfl); (focus exact RF.mk rfl); (focus exact RF.mk rfl); (focus exact xx); focus (first | exact InD.no | (apply InD.so; (focus exact xx))))) | (apply dr_ve; focus (apply DVE.mk; (focus exact RF.mk rfl); (focus exact RF.mk rfl); (focus exact RF.mk rfl); (focus exact xx); focus (first | exact InD.no | (apply InD.so; (focus exact xx))))) | (apply dr_r; focus (apply DL.mk; (focus exact RF.mk rfl); (focus exact xx); (focus exact xx); focus (first | exact InD.no | (apply InD.so; (focus exact xx))))) | (apply dr_l; (focus exact RF.mk rfl); (focus exact RF.mk rfl); (focus exact RF.mk rfl); (focus exact RF.mk rfl); (focus exact RF.mk rfl)) | (apply dr_e; (focus exact RF.mk rfl); (focus exact RF.mk rfl); (focus exact RF.mk rfl); (focus exact RF.mk rfl)) | (apply rd_e; (focus exact xx); focus (repeat first | exact PO.nil | apply PO.zero | (apply PO.ld; (focus exact xx)))) | (apply rd_l; (focus exact xx)) | refine wh_seq ?_ | refine wh_skip ?_ | refine wh_block ?_ | refine wh_end ?_ | refine wh_exit ?_ | refine wh_ret ?_ | refine bk_norm ?_ | refine bk_exit ?_ | refine bk_ret ?_ | refine fr_exit ?_ | refine fr_ret ?_ | refine lp_exit ?_ | refine lp_ret ?_ | refine jn_exit ?_ | refine jn_ret ?_ | refine bk_other rfl ?_ | (apply wr; focus exact xx) | (apply wi; (focus exact xx); (focus exact xx); all_goals intro _; all_goals try first | contradiction | (exfalso; omega) | exact absurd trivial ‹_›) | refine wh_reg ?_ | refine wh_ife ?_ | (apply re; focus exact xx) | (apply rf; (focus exact xx); (focus exact xx); all_goals intro _; all_goals try first | contradiction | (exfalso; omega) | exact absurd trivial ‹_›) | (apply ra; (focus exact xx); (focus exact xx); intro _) | (apply r1; (focus exact xx); (focus exact xx); intro _) | (apply rl; (focus exact xx); (focus exact xx); intro _) | (apply rb; (focus exact xx); (focus exact xx); intro _) | (apply rsi; (focus exact xx); (focus exact xx); all_goals try infer_instance) | (apply rsz; (focus exact xx); (focus exact xx); all_goals try infer_instance) | (apply rt; (focus exact xx); (focus exact xx)) | (apply rso; (focus exact xx); (focus exact xx); all_goals try infer_instance) | (apply rmm; (focus exact xx); intro _) | (apply rsb; (focus exact xx); (focus exact xx)) | (apply ru; (focus exact xx); (focus exact xx)) | (apply rm; (focus exact xx); (focus exact xx); intro _) | (apply rk; (focus exact xx); (focus exact xx); intro _) | (apply rcf; (focus exact xx); (focus (apply ACF.mk; (focus exact xx); (focus exact inferInstance); (focus exact xx); (focus exact inferInstance); (focus exact xx); (focus exact rfl)))) | (apply rco; (focus exact xx); (focus (apply ACO.mk; (focus exact xx); (focus exact xx); (focus exact inferInstance); (focus exact xx); (focus exact xx))); intro _) | (apply rc; (focus exact xx); (focus exact xx)) | (apply rk'; (focus exact xx); (focus exact xx))
  · rw [if_pos ‹_›]; exact fz rfl
  rename_i id hn
  rw [if_neg hn]
  refine wh_count h.length (fun s A L => ∃ j : Int, 0 ≤ j ∧ j ≤ i ∧ spotF h 0 i = spotF (h.drop s) s j ∧ A = [(0, eH h), (1, .int .i64 j), (4, .ptr id 2 0 0), (6, .int .i64 (s : Nat))] ∧ L = [.ob id (.row 2 true [eSpot 0 0])]) ⟨i, by omega, by omega, rfl, rfl, rfl⟩ ?_
  rintro s A L hs ⟨j, h0, h1, he, rfl, rfl⟩
  repeat' first | (apply dr_fin; (focus exact xx)) | (apply dr_gt; (focus exact xx)) | (apply dr_gf; (focus exact xx); (focus first | exact .inl rfl | exact .inr rfl); focus (first | exact InD.no | (apply InD.so; (focus exact xx)))) | (apply dr_v; focus (apply DV.mk; (focus exact RF.mk rfl); (focus exact RF.mk rfl); (focus exact RF.mk rfl); (focus exact RF.mk rfl); (focus exact xx); focus (first | exact InD.no | (apply InD.so; (focus exact xx))))) | (apply dr_ve; focus (apply DVE.mk; (focus exact RF.mk rfl); (focus exact RF.mk rfl); (focus exact RF.mk rfl); (focus exact xx); focus (first | exact InD.no | (apply InD.so; (focus exact xx))))) | (apply dr_r; focus (apply DL.mk; (focus exact RF.mk rfl); (focus exact xx); (focus exact xx); focus (first | exact InD.no | (apply InD.so; (focus exact xx))))) | (apply dr_l; (focus exact RF.mk rfl); (focus exact RF.mk rfl); (focus exact RF.mk rfl); (focus exact RF.mk rfl); (focus exact RF.mk rfl)) | (apply dr_e; (focus exact RF.mk rfl); (focus exact RF.mk rfl); (focus exact RF.mk rfl); (focus exact RF.mk rfl)) | (apply rd_e; (focus exact xx); focus (repeat first | exact PO.nil | apply PO.zero | (apply PO.ld; (focus exact xx)))) | (apply rd_l; (focus exact xx)) | refine wh_seq ?_ | refine wh_skip ?_ | refine wh_block ?_ | refine wh_end ?_ | refine wh_exit ?_ | refine wh_ret ?_ | refine bk_norm ?_ | refine bk_exit ?_ | refine bk_ret ?_ | refine fr_exit ?_ | refine fr_ret ?_ | refine lp_exit ?_ | refine lp_ret ?_ | refine jn_exit ?_ | refine jn_ret ?_ | refine bk_other rfl ?_ | (apply wr; focus exact xx) | (apply wi; (focus exact xx); (focus exact xx); all_goals intro _; all_goals try first | contradiction | (exfalso; omega) | exact absurd trivial ‹_›) | refine wh_reg ?_ | refine wh_ife ?_ | (apply re; focus exact xx) | (apply rf; (focus exact xx); (focus exact xx); all_goals intro _; all_goals try first | contradiction | (exfalso; omega) | exact absurd trivial ‹_›) | (apply ra; (focus exact xx); (focus exact xx); intro _) | (apply r1; (focus exact xx); (focus exact xx); intro _) | (apply rl; (focus exact xx); (focus exact xx); intro _) | (apply rb; (focus exact xx); (focus exact xx); intro _) | (apply rsi; (focus exact xx); (focus exact xx); all_goals try infer_instance) | (apply rsz; (focus exact xx); (focus exact xx); all_goals try infer_instance) | (apply rt; (focus exact xx); (focus exact xx)) | (apply rso; (focus exact xx); (focus exact xx); all_goals try infer_instance) | (apply rmm; (focus exact xx); intro _) | (apply rsb; (focus exact xx); (focus exact xx)) | (apply ru; (focus exact xx); (focus exact xx)) | (apply rm; (focus exact xx); (focus exact xx); intro _) | (apply rk; (focus exact xx); (focus exact xx); intro _) | (apply rcf; (focus exact xx); (focus (apply ACF.mk; (focus exact xx); (focus exact inferInstance); (focus exact xx); (focus exact inferInstance); (focus exact xx); (focus exact rfl)))) | (apply rco; (focus exact xx); (focus (apply ACO.mk; (focus exact xx); (focus exact xx); (focus exact inferInstance); (focus exact xx); (focus exact xx))); intro _) | (apply rc; (focus exact xx); (focus exact xx)) | (apply rk'; (focus exact xx); (focus exact xx))
  · refine fz ?_
    rw [he, drop_nth (by omega), spotF, if_pos (by omega)]; rfl
  · refine fr_next (by omega) sbc ⟨j - (nth h s).length, by omega, by omega, ?_, rfl, rfl⟩
    rw [he, drop_nth (by omega), spotF, if_neg (by omega)]
  · refine fz ?_
    rw [he, List.drop_of_length_le (by omega)]; rfl⟩
theorem mapM2 {H : Heap} {xs : List V} {d1 d2 : V} (h : xs.mapM (deep H 8) = some [d1, d2]) : True := trivial
theorem lens_eH (h : List (List Op)) : lensV (h.map eOps) = some (h.map List.length) := by
  induction h with
  | nil => rfl
  | cons l r ih => simp only [List.map_cons, lensV, lenV, ih, List.length_map]
/-- The spots, in order. -/
def spotsH (h : List (List Op)) : List (Nat × Nat) := upTo (h.map List.length) h.length 0
theorem getD_len (h : List (List Op)) (j : Nat) (hj : j < h.length) : (h.map List.length).getD j 0 = (nth h j).length := by
  simp [List.getD, hj, nth]
theorem flat_take (h : List (List Op)) (k : Nat) (hk : k ≤ h.length) : (upTo (h.map List.length) k 0).length = (h.take k).flatten.length := by
  induction k with
  | zero => rfl
  | succ k ih =>
    rw [upTo_k, getD_len h k (by omega)]
    have h1 : (upTo (h.map List.length) k (nth h k).length).length = (upTo (h.map List.length) k 0).length + (nth h k).length := by simp [upTo]
    rw [h1, ih (by omega), flat_nth (by omega), List.length_append]
theorem spots_len (h : List (List Op)) : (spotsH h).length = h.flatten.length := by
  unfold spotsH
  rw [flat_take h h.length (Nat.le_refl _), List.take_length]
theorem okLs_of {h : List (List Op)} (hb' : hb h) : okLs (h.map List.length) := by
  obtain ⟨h1, h2⟩ := hb'
  refine ⟨by rw [List.length_map]; exact h1, List.all_eq_true.2 fun k hk => ?_, ?_⟩
  · obtain ⟨l, hl, rfl⟩ := List.mem_map.1 hk
    have : l.length ≤ h.flatten.length := by
      obtain ⟨i, hi, rfl⟩ := List.mem_iff_getElem.1 hl
      have := flat_len (h := h) hi
      rw [nth_eq hi] at this; omega
    simp; omega
  · have := spots_len h
    unfold spotsH at this
    rw [List.length_map, this]; omega
def spotI (h : List (List Op)) (i : Int) : Option (Nat × Nat) := if i < 0 then none else (spotsH h)[i.toNat]?
instance hist_Spot (h : List (List Op)) (i : Int) : PCon T0 n.hist_Spot [eH h, .int .i64 i] false (hb h ∧ i ≤ 9223372036854775807) (spotW (spotI h i)) := ⟨fun ⟨b, hi⟩ xs H hx _ => by
  refine rowX (g := gSpot) rfl ?_
  unfold gSpot gPr
  rw [hx]
  simp only [Option.bind_some, gSpot0, lens_eH]
  rw [if_pos ⟨okLs_of b, hi⟩, List.length_map]
  rfl⟩
def numI (h : List (List Op)) (s p : Int) : Option Nat := (spotsH h).findIdx? (isAt s p)
instance hist_Number (h : List (List Op)) (s p : Int) : PCon T0 n.hist_Number [eH h, eSpot s p] false (hb h) (numW (numI h s p)) := ⟨fun b xs H hx _ => by
  refine rowX (g := gNum) rfl ?_
  unfold gNum gPr
  rw [hx]
  simp only [Option.bind_some, gNum0, lens_eH]
  rw [if_pos (okLs_of b), List.length_map]
  rfl⟩
instance hist_Count (h : List (List Op)) : PCon T0 n.hist_Count [eH h] false (hb h) (.int .i64 (h.flatten.length : Nat)) := ⟨fun b => by
  obtain ⟨b1, b2⟩ := b
  refine pc tabOk ?_
  repeat' first | (apply dr_fin; (focus exact xx)) | (apply dr_gt; (focus exact xx)) | (apply dr_gf; (focus exact xx); (focus first | exact .inl rfl | exact .inr rfl); focus (first | exact InD.no | (apply InD.so; (focus exact xx)))) | (apply dr_v; focus (apply DV.mk; (focus exact RF.mk rfl); (focus exact RF.mk rfl); (focus exact RF.mk rfl); (focus exact RF.mk rfl); (focus exact xx); focus (first | exact InD.no | (apply InD.so; (focus exact xx))))) | (apply dr_ve; focus (apply DVE.mk; (focus exact RF.mk rfl); (focus exact RF.mk rfl); (focus exact RF.mk rfl); (focus exact xx); focus (first | exact InD.no | (apply InD.so; (focus exact xx))))) | (apply dr_r; focus (apply DL.mk; (focus exact RF.mk rfl); (focus exact xx); (focus exact xx); focus (first | exact InD.no | (apply InD.so; (focus exact xx))))) | (apply dr_l; (focus exact RF.mk rfl); (focus exact RF.mk rfl); (focus exact RF.mk rfl); (focus exact RF.mk rfl); (focus exact RF.mk rfl)) | (apply dr_e; (focus exact RF.mk rfl); (focus exact RF.mk rfl); (focus exact RF.mk rfl); (focus exact RF.mk rfl)) | (apply rd_e; (focus exact xx); focus (repeat first | exact PO.nil | apply PO.zero | (apply PO.ld; (focus exact xx)))) | (apply rd_l; (focus exact xx)) | refine wh_seq ?_ | refine wh_skip ?_ | refine wh_block ?_ | refine wh_end ?_ | refine wh_exit ?_ | refine wh_ret ?_ | refine bk_norm ?_ | refine bk_exit ?_ | refine bk_ret ?_ | refine fr_exit ?_ | refine fr_ret ?_ | refine lp_exit ?_ | refine lp_ret ?_ | refine jn_exit ?_ | refine jn_ret ?_ | refine bk_other rfl ?_ | (apply wr; focus exact xx) | (apply wi; (focus exact xx); (focus exact xx); all_goals intro _; all_goals try first | contradiction | (exfalso; omega) | exact absurd trivial ‹_›) | refine wh_reg ?_ | refine wh_ife ?_ | (apply re; focus exact xx) | (apply rf; (focus exact xx); (focus exact xx); all_goals intro _; all_goals try first | contradiction | (exfalso; omega) | exact absurd trivial ‹_›) | (apply ra; (focus exact xx); (focus exact xx); intro _) | (apply r1; (focus exact xx); (focus exact xx); intro _) | (apply rl; (focus exact xx); (focus exact xx); intro _) | (apply rb; (focus exact xx); (focus exact xx); intro _) | (apply rsi; (focus exact xx); (focus exact xx); all_goals try infer_instance) | (apply rsz; (focus exact xx); (focus exact xx); all_goals try infer_instance) | (apply rt; (focus exact xx); (focus exact xx)) | (apply rso; (focus exact xx); (focus exact xx); all_goals try infer_instance) | (apply rmm; (focus exact xx); intro _) | (apply rsb; (focus exact xx); (focus exact xx)) | (apply ru; (focus exact xx); (focus exact xx)) | (apply rm; (focus exact xx); (focus exact xx); intro _) | (apply rk; (focus exact xx); (focus exact xx); intro _) | (apply rcf; (focus exact xx); (focus (apply ACF.mk; (focus exact xx); (focus exact inferInstance); (focus exact xx); (focus exact inferInstance); (focus exact xx); (focus exact rfl)))) | (apply rco; (focus exact xx); (focus (apply ACO.mk; (focus exact xx); (focus exact xx); (focus exact inferInstance); (focus exact xx); (focus exact xx))); intro _) | (apply rc; (focus exact xx); (focus exact xx)) | (apply rk'; (focus exact xx); (focus exact xx))
  refine wh_count h.length (fun i A L => A = [(3, .int .i64 ((h.take i).flatten.length : Nat)), (6, eH h), (7, .int .i64 (h.length : Nat)), (8, .int .i64 (i : Nat))] ∧ L = []) ⟨rfl, rfl⟩ ?_
  rintro i A L hi ⟨rfl, rfl⟩
  repeat' first | (apply dr_fin; (focus exact xx)) | (apply dr_gt; (focus exact xx)) | (apply dr_gf; (focus exact xx); (focus first | exact .inl rfl | exact .inr rfl); focus (first | exact InD.no | (apply InD.so; (focus exact xx)))) | (apply dr_v; focus (apply DV.mk; (focus exact RF.mk rfl); (focus exact RF.mk rfl); (focus exact RF.mk rfl); (focus exact RF.mk rfl); (focus exact xx); focus (first | exact InD.no | (apply InD.so; (focus exact xx))))) | (apply dr_ve; focus (apply DVE.mk; (focus exact RF.mk rfl); (focus exact RF.mk rfl); (focus exact RF.mk rfl); (focus exact xx); focus (first | exact InD.no | (apply InD.so; (focus exact xx))))) | (apply dr_r; focus (apply DL.mk; (focus exact RF.mk rfl); (focus exact xx); (focus exact xx); focus (first | exact InD.no | (apply InD.so; (focus exact xx))))) | (apply dr_l; (focus exact RF.mk rfl); (focus exact RF.mk rfl); (focus exact RF.mk rfl); (focus exact RF.mk rfl); (focus exact RF.mk rfl)) | (apply dr_e; (focus exact RF.mk rfl); (focus exact RF.mk rfl); (focus exact RF.mk rfl); (focus exact RF.mk rfl)) | (apply rd_e; (focus exact xx); focus (repeat first | exact PO.nil | apply PO.zero | (apply PO.ld; (focus exact xx)))) | (apply rd_l; (focus exact xx)) | refine wh_seq ?_ | refine wh_skip ?_ | refine wh_block ?_ | refine wh_end ?_ | refine wh_exit ?_ | refine wh_ret ?_ | refine bk_norm ?_ | refine bk_exit ?_ | refine bk_ret ?_ | refine fr_exit ?_ | refine fr_ret ?_ | refine lp_exit ?_ | refine lp_ret ?_ | refine jn_exit ?_ | refine jn_ret ?_ | refine bk_other rfl ?_ | (apply wr; focus exact xx) | refine wh_reg ?_ | refine wh_ife ?_ | (apply re; focus exact xx) | (apply ra; (focus exact xx); (focus exact xx); intro _) | (apply r1; (focus exact xx); (focus exact xx); intro _) | (apply rl; (focus exact xx); (focus exact xx); intro _) | (apply rb; (focus exact xx); (focus exact xx); intro _) | (apply rsi; (focus exact xx); (focus exact xx); all_goals try infer_instance) | (apply rsz; (focus exact xx); (focus exact xx); all_goals try infer_instance) | (apply rt; (focus exact xx); (focus exact xx)) | (apply rso; (focus exact xx); (focus exact xx); all_goals try infer_instance) | (apply rmm; (focus exact xx); intro _) | (apply rsb; (focus exact xx); (focus exact xx)) | (apply ru; (focus exact xx); (focus exact xx)) | (apply rm; (focus exact xx); (focus exact xx); intro _) | (apply rk; (focus exact xx); (focus exact xx); intro _) | (apply rcf; (focus exact xx); (focus (apply ACF.mk; (focus exact xx); (focus exact inferInstance); (focus exact xx); (focus exact inferInstance); (focus exact xx); (focus exact rfl)))) | (apply rco; (focus exact xx); (focus (apply ACO.mk; (focus exact xx); (focus exact xx); (focus exact inferInstance); (focus exact xx); (focus exact xx))); intro _) | (apply rc; (focus exact xx); (focus exact xx)) | (apply rk'; (focus exact xx); (focus exact xx))
  ((first | apply wi | apply rf); (focus exact xx); (focus exact xx); all_goals intro _)
  · rename_i hlt
    have := flat_len (h := h) (i := i) (by omega)
    repeat' first | (apply dr_fin; (focus exact xx)) | (apply dr_gt; (focus exact xx)) | (apply dr_gf; (focus exact xx); (focus first | exact .inl rfl | exact .inr rfl); focus (first | exact InD.no | (apply InD.so; (focus exact xx)))) | (apply dr_v; focus (apply DV.mk; (focus exact RF.mk rfl); (focus exact RF.mk rfl); (focus exact RF.mk rfl); (focus exact RF.mk rfl); (focus exact xx); focus (first | exact InD.no | (apply InD.so; (focus exact xx))))) | (apply dr_ve; focus (apply DVE.mk; (focus exact RF.mk rfl); (focus exact RF.mk rfl); (focus exact RF.mk rfl); (focus exact xx); focus (first | exact InD.no | (apply InD.so; (focus exact xx))))) | (apply dr_r; focus (apply DL.mk; (focus exact RF.mk rfl); (focus exact xx); (focus exact xx); focus (first | exact InD.no | (apply InD.so; (focus exact xx))))) | (apply dr_l; (focus exact RF.mk rfl); (focus exact RF.mk rfl); (focus exact RF.mk rfl); (focus exact RF.mk rfl); (focus exact RF.mk rfl)) | (apply dr_e; (focus exact RF.mk rfl); (focus exact RF.mk rfl); (focus exact RF.mk rfl); (focus exact RF.mk rfl)) | (apply rd_e; (focus exact xx); focus (repeat first | exact PO.nil | apply PO.zero | (apply PO.ld; (focus exact xx)))) | (apply rd_l; (focus exact xx)) | refine wh_seq ?_ | refine wh_skip ?_ | refine wh_block ?_ | refine wh_end ?_ | refine wh_exit ?_ | refine wh_ret ?_ | refine bk_norm ?_ | refine bk_exit ?_ | refine bk_ret ?_ | refine fr_exit ?_ | refine fr_ret ?_ | refine lp_exit ?_ | refine lp_ret ?_ | refine jn_exit ?_ | refine jn_ret ?_ | refine bk_other rfl ?_ | (apply wr; focus exact xx) | (apply wi; (focus exact xx); (focus exact xx); all_goals intro _; all_goals try first | contradiction | (exfalso; omega) | exact absurd trivial ‹_›) | refine wh_reg ?_ | refine wh_ife ?_ | (apply re; focus exact xx) | (apply rf; (focus exact xx); (focus exact xx); all_goals intro _; all_goals try first | contradiction | (exfalso; omega) | exact absurd trivial ‹_›) | (apply ra; (focus exact xx); (focus exact xx); intro _) | (apply r1; (focus exact xx); (focus exact xx); intro _) | (apply rl; (focus exact xx); (focus exact xx); intro _) | (apply rb; (focus exact xx); (focus exact xx); intro _) | (apply rsi; (focus exact xx); (focus exact xx); all_goals try infer_instance) | (apply rsz; (focus exact xx); (focus exact xx); all_goals try infer_instance) | (apply rt; (focus exact xx); (focus exact xx)) | (apply rso; (focus exact xx); (focus exact xx); all_goals try infer_instance) | (apply rmm; (focus exact xx); intro _) | (apply rsb; (focus exact xx); (focus exact xx)) | (apply ru; (focus exact xx); (focus exact xx)) | (apply rm; (focus exact xx); (focus exact xx); intro _) | (apply rk; (focus exact xx); (focus exact xx); intro _) | (apply rcf; (focus exact xx); (focus (apply ACF.mk; (focus exact xx); (focus exact inferInstance); (focus exact xx); (focus exact inferInstance); (focus exact xx); (focus exact rfl)))) | (apply rco; (focus exact xx); (focus (apply ACO.mk; (focus exact xx); (focus exact xx); (focus exact inferInstance); (focus exact xx); (focus exact xx))); intro _) | (apply rc; (focus exact xx); (focus exact xx)) | (apply rk'; (focus exact xx); (focus exact xx))
    refine fr_next (by omega) sbc ⟨?_, rfl⟩
    rw [flat_nth (by omega), List.length_append]
  · repeat' first | (apply dr_fin; (focus exact xx)) | (apply dr_gt; (focus exact xx)) | (apply dr_gf; (focus exact xx); (focus first | exact .inl rfl | exact .inr rfl); focus (first | exact InD.no | (apply InD.so; (focus exact xx)))) | (apply dr_v; focus (apply DV.mk; (focus exact RF.mk rfl); (focus exact RF.mk rfl); (focus exact RF.mk rfl); (focus exact RF.mk rfl); (focus exact xx); focus (first | exact InD.no | (apply InD.so; (focus exact xx))))) | (apply dr_ve; focus (apply DVE.mk; (focus exact RF.mk rfl); (focus exact RF.mk rfl); (focus exact RF.mk rfl); (focus exact xx); focus (first | exact InD.no | (apply InD.so; (focus exact xx))))) | (apply dr_r; focus (apply DL.mk; (focus exact RF.mk rfl); (focus exact xx); (focus exact xx); focus (first | exact InD.no | (apply InD.so; (focus exact xx))))) | (apply dr_l; (focus exact RF.mk rfl); (focus exact RF.mk rfl); (focus exact RF.mk rfl); (focus exact RF.mk rfl); (focus exact RF.mk rfl)) | (apply dr_e; (focus exact RF.mk rfl); (focus exact RF.mk rfl); (focus exact RF.mk rfl); (focus exact RF.mk rfl)) | (apply rd_e; (focus exact xx); focus (repeat first | exact PO.nil | apply PO.zero | (apply PO.ld; (focus exact xx)))) | (apply rd_l; (focus exact xx)) | refine wh_seq ?_ | refine wh_skip ?_ | refine wh_block ?_ | refine wh_end ?_ | refine wh_exit ?_ | refine wh_ret ?_ | refine bk_norm ?_ | refine bk_exit ?_ | refine bk_ret ?_ | refine fr_exit ?_ | refine fr_ret ?_ | refine lp_exit ?_ | refine lp_ret ?_ | refine jn_exit ?_ | refine jn_ret ?_ | refine bk_other rfl ?_ | (apply wr; focus exact xx) | (apply wi; (focus exact xx); (focus exact xx); all_goals intro _; all_goals try first | contradiction | (exfalso; omega) | exact absurd trivial ‹_›) | refine wh_reg ?_ | refine wh_ife ?_ | (apply re; focus exact xx) | (apply rf; (focus exact xx); (focus exact xx); all_goals intro _; all_goals try first | contradiction | (exfalso; omega) | exact absurd trivial ‹_›) | (apply ra; (focus exact xx); (focus exact xx); intro _) | (apply r1; (focus exact xx); (focus exact xx); intro _) | (apply rl; (focus exact xx); (focus exact xx); intro _) | (apply rb; (focus exact xx); (focus exact xx); intro _) | (apply rsi; (focus exact xx); (focus exact xx); all_goals try infer_instance) | (apply rsz; (focus exact xx); (focus exact xx); all_goals try infer_instance) | (apply rt; (focus exact xx); (focus exact xx)) | (apply rso; (focus exact xx); (focus exact xx); all_goals try infer_instance) | (apply rmm; (focus exact xx); intro _) | (apply rsb; (focus exact xx); (focus exact xx)) | (apply ru; (focus exact xx); (focus exact xx)) | (apply rm; (focus exact xx); (focus exact xx); intro _) | (apply rk; (focus exact xx); (focus exact xx); intro _) | (apply rcf; (focus exact xx); (focus (apply ACF.mk; (focus exact xx); (focus exact inferInstance); (focus exact xx); (focus exact inferInstance); (focus exact xx); (focus exact rfl)))) | (apply rco; (focus exact xx); (focus (apply ACO.mk; (focus exact xx); (focus exact xx); (focus exact inferInstance); (focus exact xx); (focus exact xx))); intro _) | (apply rc; (focus exact xx); (focus exact xx)) | (apply rk'; (focus exact xx); (focus exact xx))
    refine fz ?_
    rw [show i = h.length by omega, List.take_length]⟩
instance equal_o (a b : List Op) : PCon T0 n.slices_Equal___api_Op_api_Op [eOps a, eOps b] false (a.length ≤ 1048576) (.bool (decide (a = b))) := ⟨fun hb => by
  refine pc tabOk ?_
  repeat' first | (apply dr_fin; (focus exact xx)) | (apply dr_gt; (focus exact xx)) | (apply dr_gf; (focus exact xx); (focus first | exact .inl rfl | exact .inr rfl); focus (first | exact InD.no | (apply InD.so; (focus exact xx)))) | (apply dr_v; focus (apply DV.mk; (focus exact RF.mk rfl); (focus exact RF.mk rfl); (focus exact RF.mk rfl); (focus exact RF.mk rfl); (focus exact xx); focus (first | exact InD.no | (apply InD.so; (focus exact xx))))) | (apply dr_ve; focus (apply DVE.mk; (focus exact RF.mk rfl); (focus exact RF.mk rfl); (focus exact RF.mk rfl); (focus exact xx); focus (first | exact InD.no | (apply InD.so; (focus exact xx))))) | (apply dr_r; focus (apply DL.mk; (focus exact RF.mk rfl); (focus exact xx); (focus exact xx); focus (first | exact InD.no | (apply InD.so; (focus exact xx))))) | (apply dr_l; (focus exact RF.mk rfl); (focus exact RF.mk rfl); (focus exact RF.mk rfl); (focus exact RF.mk rfl); (focus exact RF.mk rfl)) | (apply dr_e; (focus exact RF.mk rfl); (focus exact RF.mk rfl); (focus exact RF.mk rfl); (focus exact RF.mk rfl)) | (apply rd_e; (focus exact xx); focus (repeat first | exact PO.nil | apply PO.zero | (apply PO.ld; (focus exact xx)))) | (apply rd_l; (focus exact xx)) | refine wh_seq ?_ | refine wh_skip ?_ | refine wh_block ?_ | refine wh_end ?_ | refine wh_exit ?_ | refine wh_ret ?_ | refine bk_norm ?_ | refine bk_exit ?_ | refine bk_ret ?_ | refine fr_exit ?_ | refine fr_ret ?_ | refine lp_exit ?_ | refine lp_ret ?_ | refine jn_exit ?_ | refine jn_ret ?_ | refine bk_other rfl ?_ | (apply wr; focus exact xx) | (apply wi; (focus exact xx); (focus exact xx); all_goals intro _; all_goals try first | contradiction | (exfalso; omega) | exact absurd trivial ‹_›) | refine wh_reg ?_ | refine wh_ife ?_ | (apply re; focus exact xx) | (apply rf; (focus exact xx); (focus exact xx); all_goals intro _; all_goals try first | contradiction | (exfalso; omega) | exact absurd trivial ‹_›) | (apply ra; (focus exact xx); (focus exact xx); intro _) | (apply r1; (focus exact xx); (focus exact xx); intro _) | (apply rl; (focus exact xx); (focus exact xx); intro _) | (apply rb; (focus exact xx); (focus exact xx); intro _) | (apply rsi; (focus exact xx); (focus exact xx); all_goals try infer_instance) | (apply rsz; (focus exact xx); (focus exact xx); all_goals try infer_instance) | (apply rt; (focus exact xx); (focus exact xx)) | (apply rso; (focus exact xx); (focus exact xx); all_goals try infer_instance) | (apply rmm; (focus exact xx); intro _) | (apply rsb; (focus exact xx); (focus exact xx)) | (apply ru; (focus exact xx); (focus exact xx)) | (apply rm; (focus exact xx); (focus exact xx); intro _) | (apply rk; (focus exact xx); (focus exact xx); intro _) | (apply rcf; (focus exact xx); (focus (apply ACF.mk; (focus exact xx); (focus exact inferInstance); (focus exact xx); (focus exact inferInstance); (focus exact xx); (focus exact rfl)))) | (apply rco; (focus exact xx); (focus (apply ACO.mk; (focus exact xx); (focus exact xx); (focus exact inferInstance); (focus exact xx); (focus exact xx))); intro _) | (apply rc; (focus exact xx); (focus exact xx)) | (apply rk'; (focus exact xx); (focus exact xx))
  · exact fz (ff (ne_len (by omega)))
  refine wh_count a.length (fun i A L => A = [(0, eOps a), (1, eOps b), (12, .int .i64 (a.length : Nat)), (13, .int .i64 (i : Nat))] ∧ L = [] ∧ a.take i = b.take i) ⟨rfl, rfl, rfl⟩ ?_
  rintro i A L hi ⟨rfl, rfl, ha⟩
  repeat' first | (apply dr_fin; (focus exact xx)) | (apply dr_gt; (focus exact xx)) | (apply dr_gf; (focus exact xx); (focus first | exact .inl rfl | exact .inr rfl); focus (first | exact InD.no | (apply InD.so; (focus exact xx)))) | (apply dr_v; focus (apply DV.mk; (focus exact RF.mk rfl); (focus exact RF.mk rfl); (focus exact RF.mk rfl); (focus exact RF.mk rfl); (focus exact xx); focus (first | exact InD.no | (apply InD.so; (focus exact xx))))) | (apply dr_ve; focus (apply DVE.mk; (focus exact RF.mk rfl); (focus exact RF.mk rfl); (focus exact RF.mk rfl); (focus exact xx); focus (first | exact InD.no | (apply InD.so; (focus exact xx))))) | (apply dr_r; focus (apply DL.mk; (focus exact RF.mk rfl); (focus exact xx); (focus exact xx); focus (first | exact InD.no | (apply InD.so; (focus exact xx))))) | (apply dr_l; (focus exact RF.mk rfl); (focus exact RF.mk rfl); (focus exact RF.mk rfl); (focus exact RF.mk rfl); (focus exact RF.mk rfl)) | (apply dr_e; (focus exact RF.mk rfl); (focus exact RF.mk rfl); (focus exact RF.mk rfl); (focus exact RF.mk rfl)) | (apply rd_e; (focus exact xx); focus (repeat first | exact PO.nil | apply PO.zero | (apply PO.ld; (focus exact xx)))) | (apply rd_l; (focus exact xx)) | refine wh_seq ?_ | refine wh_skip ?_ | refine wh_block ?_ | refine wh_end ?_ | refine wh_exit ?_ | refine wh_ret ?_ | refine bk_norm ?_ | refine bk_exit ?_ | refine bk_ret ?_ | refine fr_exit ?_ | refine fr_ret ?_ | refine lp_exit ?_ | refine lp_ret ?_ | refine jn_exit ?_ | refine jn_ret ?_ | refine bk_other rfl ?_ | (apply wr; focus exact xx) | (apply wi; (focus exact xx); (focus exact xx); all_goals intro _; all_goals try first | contradiction | (exfalso; omega) | exact absurd trivial ‹_›) | refine wh_reg ?_ | refine wh_ife ?_ | (apply re; focus exact xx) | (apply rf; (focus exact xx); (focus exact xx); all_goals intro _; all_goals try first | contradiction | (exfalso; omega) | exact absurd trivial ‹_›) | (apply ra; (focus exact xx); (focus exact xx); intro _) | (apply r1; (focus exact xx); (focus exact xx); intro _) | (apply rl; (focus exact xx); (focus exact xx); intro _) | (apply rb; (focus exact xx); (focus exact xx); intro _) | (apply rsi; (focus exact xx); (focus exact xx); all_goals try infer_instance) | (apply rsz; (focus exact xx); (focus exact xx); all_goals try infer_instance) | (apply rt; (focus exact xx); (focus exact xx)) | (apply rso; (focus exact xx); (focus exact xx); all_goals try infer_instance) | (apply rmm; (focus exact xx); intro _) | (apply rsb; (focus exact xx); (focus exact xx)) | (apply ru; (focus exact xx); (focus exact xx)) | (apply rm; (focus exact xx); (focus exact xx); intro _) | (apply rk; (focus exact xx); (focus exact xx); intro _) | (apply rcf; (focus exact xx); (focus (apply ACF.mk; (focus exact xx); (focus exact inferInstance); (focus exact xx); (focus exact inferInstance); (focus exact xx); (focus exact rfl)))) | (apply rco; (focus exact xx); (focus (apply ACO.mk; (focus exact xx); (focus exact xx); (focus exact inferInstance); (focus exact xx); (focus exact xx))); intro _) | (apply rc; (focus exact xx); (focus exact xx)) | (apply rk'; (focus exact xx); (focus exact xx))
  · rename_i h; rw [eOp_inj] at h; exact fz (ff (ne_at h))
  · rename_i h; rw [eOp_inj, Decidable.not_not] at h; exact fr_next (by omega) sbc ⟨rfl, rfl, eq_step (by omega) (by omega) ha h⟩
  · exact fz (tt (eq_end (by omega) (by omega) ha))⟩
end Go.AM

set_option linter.unusedVariables false
set_option linter.unusedSimpArgs false
namespace Go.AM
attribute [-simp] List.length_flatten List.map_flatten List.map_take List.map_map List.flatten_append
/-! The spots, row by row. -/
def allSp : Nat → List Nat → List (Nat × Nat)
  | _, [] => []
  | k, l :: r => (List.range l).map (fun q => (k, q)) ++ allSp (k + 1) r
theorem sp_all : ∀ (ls : List Nat) (k : Nat), ((List.range ls.length).flatMap fun s => (List.range (ls.getD s 0)).map fun q => (k + s, q)) = allSp k ls
  | [], k => rfl
  | l :: r, k => by
    rw [List.length_cons, List.range_succ_eq_map, List.flatMap_cons, List.flatMap_map]
    have := sp_all r (k + 1)
    rw [allSp, ← this]
    congr 1
    congr 1
    funext s
    rw [show k + 1 + s = k + (s + 1) by omega]
    rfl
theorem spotsH_all (h : List (List Op)) : spotsH h = allSp 0 (h.map List.length) := by
  rw [← sp_all]
  unfold spotsH upTo
  rw [List.length_map]
  simp
theorem allSp_spot : ∀ (h : List (List Op)) (k : Nat) (j : Int), 0 ≤ j → spotF h k j = ((allSp k (h.map List.length))[j.toNat]?).map fun x => (x.1, (x.2 : Int))
  | [], k, j, _ => by simp [spotF, allSp]
  | l :: r, k, j, hj => by
    rw [spotF, List.map_cons, allSp]
    split
    · rename_i hl
      rw [List.getElem?_append_left (by simp; omega)]
      simp [show j.toNat < l.length by omega]; omega
    · rename_i hl
      rw [List.getElem?_append_right (by simp; omega), List.length_map, List.length_range, allSp_spot r (k + 1) _ (by omega)]
      congr 2; omega
theorem spot_same (h : List (List Op)) (i : Int) : spotV (if i < 0 then none else spotF h 0 i) = spotW (spotI h i) := by
  unfold spotI
  split
  · rfl
  · rw [allSp_spot h 0 i (by omega), spotsH_all]
    cases (allSp 0 (h.map List.length))[i.toNat]? <;> rfl
theorem fi_row (k l : Nat) (s p : Int) : ((List.range l).map fun q => (k, q)).findIdx? (isAt s p) = if (k : Int) = s ∧ 0 ≤ p ∧ p < l then some p.toNat else none := by
  induction l with
  | zero => rw [if_neg (by omega)]; rfl
  | succ l ih =>
    rw [List.range_succ, List.map_append, List.findIdx?_append, ih]
    by_cases h1 : (k : Int) = s ∧ 0 ≤ p ∧ p < l
    · rw [if_pos h1, if_pos (by omega)]; rfl
    · rw [if_neg h1]
      by_cases h2 : (k : Int) = s ∧ p = l
      · rw [if_pos (by omega)]
        simp [isAt, h2.1, h2.2]
      · rw [if_neg (by omega)]
        have : isAt s p (k, l) = false := by
          simp only [isAt, Bool.and_eq_false_iff, decide_eq_false_iff_not]
          by_cases h3 : (k : Int) = s
          · right; intro h4; exact h2 ⟨h3, h4.symm⟩
          · left; exact h3
        simp [this]
def sumL (ls : List Nat) : Nat := ls.foldr (· + ·) 0
theorem fi_all : ∀ (ls : List Nat) (k : Nat) (s p : Int), (allSp k ls).findIdx? (isAt s p) = if (k : Int) ≤ s ∧ s < (k : Int) + ls.length ∧ 0 ≤ p ∧ p < (ls.getD (s - k).toNat 0 : Nat) then some (sumL (ls.take (s - k).toNat) + p.toNat) else none
  | [], k, s, p => by rw [if_neg (by simp only [List.length_nil]; omega)]; rfl
  | l :: r, k, s, p => by
    rw [allSp, List.findIdx?_append, fi_row, fi_all r (k + 1) s p, List.length_cons]
    by_cases h1 : (k : Int) = s
    · subst h1
      rw [show ((k : Int) - k).toNat = 0 by omega]
      by_cases h2 : 0 ≤ p ∧ p < (l : Int)
      · rw [if_pos ⟨rfl, h2⟩]
        show some p.toNat = _
        rw [if_pos ⟨Int.le_refl _, by omega, h2.1, by simpa using h2.2⟩]
        simp [sumL]
      · rw [if_neg (fun h => h2 h.2), if_neg (by omega), if_neg (fun h => h2 ⟨h.2.2.1, by simpa using h.2.2.2⟩)]
        rfl
    · rw [if_neg (fun h => h1 h.1)]
      by_cases h3 : (k : Int) < s
      · obtain ⟨j, hj⟩ : ∃ j : Nat, s = (k : Int) + 1 + (j : Nat) := ⟨(s - k - 1).toNat, by omega⟩
        subst hj
        rw [show ((k : Int) + 1 + (j : Nat) - ((k + 1 : Nat) : Int)).toNat = j by omega, show ((k : Int) + 1 + (j : Nat) - (k : Int)).toNat = j + 1 by omega]
        have e1 : (l :: r).getD (j + 1) 0 = r.getD j 0 := rfl
        rw [e1]
        by_cases h4 : 0 ≤ p ∧ p < (r.getD j 0 : Nat) ∧ j < r.length
        · rw [if_pos (by omega), if_pos (by omega)]
          simp [sumL]; omega
        · rw [if_neg (by omega), if_neg (by omega)]; rfl
      · rw [if_neg (by omega), if_neg (by omega)]; rfl
theorem sum_take (h : List (List Op)) (s : Nat) : sumL ((h.map List.length).take s) = (h.take s).flatten.length := by
  induction h generalizing s with
  | nil => simp [sumL]
  | cons l r ih =>
    cases s with
    | zero => rfl
    | succ s =>
      rw [List.map_cons, List.take_succ_cons, List.take_succ_cons, List.flatten_cons, List.length_append, ← ih s]; rfl
/-- Which number a spot has. -/
def numR (h : List (List Op)) (s p : Int) : Option Nat := if 0 ≤ s ∧ s < (h.length : Int) ∧ 0 ≤ p ∧ p < ((nth h s.toNat).length : Int) then some ((h.take s.toNat).flatten.length + p.toNat) else none
theorem num_same (h : List (List Op)) (s p : Int) : numI h s p = numR h s p := by
  unfold numI numR
  rw [spotsH_all, fi_all]
  by_cases hs : 0 ≤ s ∧ s < (h.length : Int)
  · have e1 : (h.map List.length).getD (s - ((0 : Nat) : Int)).toNat 0 = (nth h s.toNat).length := by
      rw [show (s - ((0 : Nat) : Int)).toNat = s.toNat by omega, getD_len h _ (by omega)]
    rw [e1, show (s - ((0 : Nat) : Int)).toNat = s.toNat by omega, sum_take, List.length_map]
    by_cases hp : 0 ≤ p ∧ p < ((nth h s.toNat).length : Int)
    · rw [if_pos (by omega), if_pos (by omega)]
    · rw [if_neg (by omega), if_neg (by omega)]
  · rw [if_neg (by rw [List.length_map]; omega), if_neg (by omega)]
theorem at_all : ∀ (ls : List Nat) (k i : Nat) (x : Nat × Nat), (allSp k ls)[i]? = some x → k ≤ x.1 ∧ x.1 < k + ls.length ∧ x.2 < ls.getD (x.1 - k) 0 ∧ i = sumL (ls.take (x.1 - k)) + x.2
  | [], k, i, x, h => by simp [allSp] at h
  | l :: r, k, i, x, h => by
    rw [allSp] at h
    by_cases hi : i < l
    · rw [List.getElem?_append_left (by simpa using hi)] at h
      simp [hi] at h
      subst h
      simp [sumL, hi]
    · rw [List.getElem?_append_right (by simp; omega), List.length_map, List.length_range] at h
      obtain ⟨h1, h2, h3, h4⟩ := at_all r (k + 1) _ x h
      obtain ⟨j, hj⟩ : ∃ j, x.1 = k + 1 + j := ⟨x.1 - (k + 1), by omega⟩
      rw [hj, show k + 1 + j - (k + 1) = j by omega] at h3 h4
      rw [hj, show k + 1 + j - k = j + 1 by omega]
      refine ⟨by omega, by simp; omega, h3, ?_⟩
      rw [List.take_succ_cons]
      show i = l + sumL (r.take j) + x.2
      omega
/-- What stands at a number. -/
theorem spot_at {h : List (List Op)} {i : Nat} (hi : i < h.flatten.length) : ∃ s p : Nat, spotI h i = some (s, p) ∧ s < h.length ∧ p < (nth h s).length ∧ numI h s p = some i ∧ nth (nth h s) p = nth h.flatten i := by
  have hl := spots_len h
  obtain ⟨x, hx⟩ : ∃ x, (spotsH h)[i]? = some x := ⟨_, List.getElem?_eq_getElem (by omega)⟩
  have hx' := hx
  rw [spotsH_all] at hx
  obtain ⟨h1, h2, h3, h4⟩ := at_all _ _ _ _ hx
  obtain ⟨s, p⟩ := x
  simp only [Nat.zero_add, List.length_map, Nat.sub_zero] at h2 h3 h4
  rw [getD_len h s h2] at h3
  rw [sum_take] at h4
  refine ⟨s, p, ?_, h2, h3, ?_, ?_⟩
  · unfold spotI; rw [if_neg (by omega), Int.toNat_natCast]; exact hx'
  · rw [num_same, numR, if_pos ⟨by omega, by omega, by omega, by rw [Int.toNat_natCast]; omega⟩, Int.toNat_natCast, Int.toNat_natCast, h4]
  · have e1 : h.flatten = (h.take s).flatten ++ (nth h s ++ (h.drop (s + 1)).flatten) := by
      conv => lhs; rw [← List.take_append_drop s h, List.flatten_append, List.drop_eq_getElem_cons h2, ← nth_eq h2, List.flatten_cons]
    rw [nth_eq h3, nth_eq hi]
    have hi' := hi
    have : h.flatten[i]? = (nth h s)[p]? := by
      rw [e1, h4, List.getElem?_append_right (by omega), Nat.add_sub_cancel_left, List.getElem?_append_left h3]
    rw [List.getElem?_eq_getElem hi, List.getElem?_eq_getElem h3] at this
    injection this with this
    exact this.symm
end Go.AM

