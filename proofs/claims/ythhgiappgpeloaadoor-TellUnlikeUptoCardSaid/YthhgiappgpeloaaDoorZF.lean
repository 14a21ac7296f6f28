/- Part ZF of the proof. -/
import Derived.Test.YthhgiappgpeloaaDoorZE
import Derived.Test.YthhgiappgpeloaaDoorA3
set_option linter.unusedVariables false
set_option linter.unusedSimpArgs false
namespace Go.AM
open Go.Lib
attribute [-simp] List.length_flatten List.map_flatten List.map_take List.map_map List.flatten_append
instance (q : Int) : Decidable (okN q) := by unfold okN; infer_instance
theorem dec1 {u : Nat} (h : u < 10) : itoa (u : Int) = [UInt8.ofNat (48 + u)] := by
  rw [itoa, if_neg (by omega)]
  exact dec_small h
abbrev zWit : Wit := ⟨0, 0, 0, 0, 0, [], 0, 0⟩
theorem ex26a : vdT 2 5 0 0 0 zWit = [101, 114, 114, 111, 114, 32, 50, 32, 53, 32, 48, 32, 48, 10] := by
  rw [vdT, if_neg (by decide), errT, numT, errL]
  simp only [List.flatMap_cons, List.flatMap_nil]
  rw [show (2 : Int) = ((2 : Nat) : Int) from rfl, show (5 : Int) = ((5 : Nat) : Int) from rfl, show (0 : Int) = ((0 : Nat) : Int) from rfl, dec1 (by decide), dec1 (by decide), dec1 (by decide)]
  rfl
theorem ex26b : join [[97], [98]] [32] ++ [10] = [97, 32, 98, 10] := by decide
theorem ex26c : numT [97, 114, 98] [] = [97, 114, 98, 10] := by decide
set_option maxHeartbeats 4000000 in
instance awake26 : PCon T0 n.law26_awake [] false True (.bool true) := ⟨fun _ => by
  have c1 : PCon T0 n.tell_Text [eVd 2 5 0 0 0 0 0 [] [] [] zWit] false True (.str [101, 114, 114, 111, 114, 32, 50, 32, 53, 32, 48, 32, 48, 10]) := ⟨fun _ => by
    have := (tell_Text 2 5 0 0 0 0 0 [] [] [] zWit).con ⟨by decide, by decide, by decide, by decide, by decide, ⟨by decide, by decide, by decide, by decide, by decide, by decide, by decide⟩, by decide, fun _ h => by cases h⟩
    rwa [ex26a] at this⟩
  have c2 : PCon T0 n.tell_Line [.lst [.str [97], .str [98]]] false True (.str [97, 32, 98, 10]) := ⟨fun _ => by
    have := (tell_Line [[97], [98]]).con ⟨by decide, by decide⟩
    rwa [ex26b] at this⟩
  have c3 : PCon T0 n.tell_Numbers [.str [97, 114, 98], .lst []] false True (.str [97, 114, 98, 10]) := ⟨fun _ => by
    have := (tell_Numbers [97, 114, 98] []).con ⟨by decide, by decide, fun _ h => by cases h⟩
    rwa [ex26c] at this⟩
  refine pc tabOk ?_
  repeat' first | (apply dr_fin; (focus exact xx)) | (apply dr_gt; (focus exact xx)) | (apply dr_gf; (focus exact xx); (focus first | exact .inl rfl | exact .inr rfl); focus (first | exact InD.no | (apply InD.so; (focus exact xx)))) | (apply dr_v; focus (apply DV.mk; (focus exact RF.mk rfl); (focus exact RF.mk rfl); (focus exact RF.mk rfl); (focus exact RF.mk rfl); (focus exact xx); focus (first | exact InD.no | (apply InD.so; (focus exact xx))))) | (apply dr_ve; focus (apply DVE.mk; (focus exact RF.mk rfl); (focus exact RF.mk rfl); (focus exact RF.mk rfl); (focus exact xx); focus (first | exact InD.no | (apply InD.so; (focus exact xx))))) | (apply dr_r; focus (apply DL.mk; (focus exact RF.mk rfl); (focus exact xx); (focus exact xx); focus (first | exact InD.no | (apply InD.so; (focus exact xx))))) | (apply dr_l; (focus exact RF.mk rfl); (focus exact RF.mk rfl); (focus exact RF.mk rfl); (focus exact RF.mk rfl); (focus exact RF.mk rfl)) | (apply dr_e; (focus exact RF.mk rfl); (focus exact RF.mk rfl); (focus exact RF.mk rfl); (focus exact RF.mk rfl)) | (apply rd_e; (focus exact xx); focus (repeat first | exact PO.nil | apply PO.zero | (apply PO.ld; (focus exact xx)))) | (apply rd_l; (focus exact xx)) | refine wh_seq ?_ | refine wh_skip ?_ | refine wh_block ?_ | refine wh_end ?_ | refine wh_exit ?_ | refine wh_ret ?_ | refine bk_norm ?_ | refine bk_exit ?_ | refine bk_ret ?_ | refine fr_exit ?_ | refine fr_ret ?_ | refine lp_exit ?_ | refine lp_ret ?_ | refine jn_exit ?_ | refine jn_ret ?_ | refine bk_other rfl ?_ | (apply wr; focus exact xx) | (apply wi; (focus exact xx); (focus exact xx); all_goals intro _; all_goals try first | contradiction | (exfalso; omega) | exact absurd trivial ‹_›) | refine wh_reg ?_ | refine wh_ife ?_ | (apply re; focus exact xx) | (apply rf; (focus exact xx); (focus exact xx); all_goals intro _; all_goals try first | contradiction | (exfalso; omega) | exact absurd trivial ‹_›) | (apply ra; (focus exact xx); (focus exact xx); intro _) | (apply r1; (focus exact xx); (focus exact xx); intro _) | (apply rl; (focus exact xx); (focus exact xx); intro _) | (apply rb; (focus exact xx); (focus exact xx); intro _) | (apply rsi; (focus exact xx); (focus exact xx); all_goals try infer_instance) | (apply rsz; (focus exact xx); (focus exact xx); all_goals try infer_instance) | (apply rt; (focus exact xx); (focus exact xx)) | (apply rso; (focus exact xx); (focus exact xx); all_goals try infer_instance) | (apply rmm; (focus exact xx); intro _) | (apply rsb; (focus exact xx); (focus exact xx)) | (apply ru; (focus exact xx); (focus exact xx)) | (apply rm; (focus exact xx); (focus exact xx); intro _) | (apply rk; (focus exact xx); (focus exact xx); intro _) | (apply rcf; (focus exact xx); (focus (apply ACF.mk; (focus exact xx); (focus exact inferInstance); (focus exact xx); (focus exact inferInstance); (focus exact xx); (focus exact rfl)))) | (apply rco; (focus exact xx); (focus (apply ACO.mk; (focus exact xx); (focus exact xx); (focus exact inferInstance); (focus exact xx); (focus exact xx))); intro _) | (apply rc; (focus exact xx); (focus exact xx)) | (apply rk'; (focus exact xx); (focus exact xx))
  refine wh_raw ?_
  repeat' first | (apply dr_fin; (focus exact xx)) | (apply dr_gt; (focus exact xx)) | (apply dr_gf; (focus exact xx); (focus first | exact .inl rfl | exact .inr rfl); focus (first | exact InD.no | (apply InD.so; (focus exact xx)))) | (apply dr_v; focus (apply DV.mk; (focus exact RF.mk rfl); (focus exact RF.mk rfl); (focus exact RF.mk rfl); (focus exact RF.mk rfl); (focus exact xx); focus (first | exact InD.no | (apply InD.so; (focus exact xx))))) | (apply dr_ve; focus (apply DVE.mk; (focus exact RF.mk rfl); (focus exact RF.mk rfl); (focus exact RF.mk rfl); (focus exact xx); focus (first | exact InD.no | (apply InD.so; (focus exact xx))))) | (apply dr_r; focus (apply DL.mk; (focus exact RF.mk rfl); (focus exact xx); (focus exact xx); focus (first | exact InD.no | (apply InD.so; (focus exact xx))))) | (apply dr_l; (focus exact RF.mk rfl); (focus exact RF.mk rfl); (focus exact RF.mk rfl); (focus exact RF.mk rfl); (focus exact RF.mk rfl)) | (apply dr_e; (focus exact RF.mk rfl); (focus exact RF.mk rfl); (focus exact RF.mk rfl); (focus exact RF.mk rfl)) | (apply rd_e; (focus exact xx); focus (repeat first | exact PO.nil | apply PO.zero | (apply PO.ld; (focus exact xx)))) | (apply rd_l; (focus exact xx)) | refine wh_seq ?_ | refine wh_skip ?_ | refine wh_block ?_ | refine wh_end ?_ | refine wh_exit ?_ | refine wh_ret ?_ | refine bk_norm ?_ | refine bk_exit ?_ | refine bk_ret ?_ | refine fr_exit ?_ | refine fr_ret ?_ | refine lp_exit ?_ | refine lp_ret ?_ | refine jn_exit ?_ | refine jn_ret ?_ | refine bk_other rfl ?_ | (apply wr; focus exact xx) | (apply wi; (focus exact xx); (focus exact xx); all_goals intro _; all_goals try first | contradiction | (exfalso; omega) | exact absurd trivial ‹_›) | refine wh_reg ?_ | refine wh_ife ?_ | (apply re; focus exact xx) | (apply rf; (focus exact xx); (focus exact xx); all_goals intro _; all_goals try first | contradiction | (exfalso; omega) | exact absurd trivial ‹_›) | (apply ra; (focus exact xx); (focus exact xx); intro _) | (apply r1; (focus exact xx); (focus exact xx); intro _) | (apply rl; (focus exact xx); (focus exact xx); intro _) | (apply rb; (focus exact xx); (focus exact xx); intro _) | (apply rsi; (focus exact xx); (focus exact xx); all_goals try infer_instance) | (apply rsz; (focus exact xx); (focus exact xx); all_goals try infer_instance) | (apply rt; (focus exact xx); (focus exact xx)) | (apply rso; (focus exact xx); (focus exact xx); all_goals try infer_instance) | (apply rmm; (focus exact xx); intro _) | (apply rsb; (focus exact xx); (focus exact xx)) | (apply ru; (focus exact xx); (focus exact xx)) | (apply rm; (focus exact xx); (focus exact xx); intro _) | (apply rk; (focus exact xx); (focus exact xx); intro _) | (apply rcf; (focus exact xx); (focus (apply ACF.mk; (focus exact xx); (focus exact inferInstance); (focus exact xx); (focus exact inferInstance); (focus exact xx); (focus exact rfl)))) | (apply rco; (focus exact xx); (focus (apply ACO.mk; (focus exact xx); (focus exact xx); (focus exact inferInstance); (focus exact xx); (focus exact xx))); intro _) | (apply rc; (focus exact xx); (focus exact xx)) | (apply rk'; (focus exact xx); (focus exact xx))
  refine fz ?_
  decide +kernel⟩
end Go.AM

set_option linter.unusedVariables false
set_option linter.unusedSimpArgs false
namespace Go.AM
open Go.Lib
attribute [-simp] List.length_flatten List.map_flatten List.map_take List.map_map List.flatten_append
def c10 (s : List UInt8) : Nat := s.count 10
theorem c10_app (a b : List UInt8) : c10 (a ++ b) = c10 a + c10 b := List.count_append ..
theorem c10_step {s : List UInt8} {i : Nat} (hi : i < s.length) : c10 (s.take (i + 1)) = c10 (s.take i) + if nth s i = 10 then 1 else 0 := by
  rw [take_nth hi, c10_app]
  congr 1
  unfold c10
  by_cases h : nth s i = 10 <;> simp [h]
theorem dig_10 : ∀ {l : List UInt8}, l.all dig = true → c10 l = 0
  | [], _ => rfl
  | c :: r, h => by
    simp only [List.all_cons, Bool.and_eq_true] at h
    have h1 := dig_10 h.2
    unfold c10 at h1 ⊢
    rw [List.count_cons, h1]
    have : c ≠ 10 := by rintro rfl; exact absurd h.1 (by decide)
    simp [this]
theorem itoa_10 (q : Int) : c10 (itoa q) = 0 := by
  unfold itoa
  split
  · have := dig_10 (dec_dig q.natAbs)
    unfold c10 at this ⊢
    rw [List.count_cons, this]; rfl
  · exact dig_10 (dec_dig _)
theorem fm_10 (l : List Int) : c10 (l.flatMap fun x => 32 :: itoa x) = 0 := by
  induction l with
  | nil => rfl
  | cons a r ih =>
    rw [List.flatMap_cons, c10_app, ih]
    have := itoa_10 a
    unfold c10 at this ⊢
    rw [List.count_cons, this]; rfl
theorem num_10 (nm : List UInt8) (l : List Int) : c10 (numT nm l) = c10 nm + 1 := by
  rw [numT, c10_app, c10_app, fm_10]; rfl
theorem sts_10 (l : List Stp) : c10 (l.flatMap stT) = l.length := by
  induction l with
  | nil => rfl
  | cons a r ih =>
    rw [List.flatMap_cons, c10_app, ih, stT, num_10, List.length_cons]
    have : c10 [115, 116, 101, 112] = 0 := rfl
    omega
theorem vd_10 (lv : Int) (w : Wit) : c10 (vdT 0 0 0 0 lv w) = 2 + w.st.length := by
  rw [vdT, if_pos rfl, c10_app, incT, num_10, witT, c10_app, patT, num_10, sts_10]
  have h1 : c10 [105, 110, 99, 111, 110, 115, 105, 115, 116, 101, 110, 116] = 0 := rfl
  have h2 : c10 [112, 97, 116, 116, 101, 114, 110] = 0 := rfl
  omega
theorem er_10 (a : Int) : c10 (vdT 2 a 0 0 0 zWit) = 1 := by
  rw [vdT, if_neg (by decide), errT, num_10]
  rfl
theorem vd_len {e a i j lv : Int} {w : Wit} (h : okVd e a i j lv w) : (vdT e a i j lv w).length ≤ 1000 + 115 * w.st.length := by
  obtain ⟨h1, h2, h3, h4, h5, ok⟩ := h
  have hel := numT_len (okNm_err h1 h2 h3 h4)
  have hil := numT_len (okNm_inc h5)
  have hwl := witT_len ok
  simp only [List.length_cons, List.length_nil, errL] at hel hil
  unfold vdT
  split
  · unfold incT; rw [List.length_append]; omega
  · unfold errT; simp only [errL]; omega
theorem c10_le (s : List UInt8) : c10 s ≤ s.length := List.count_le_length
set_option maxHeartbeats 8000000 in
instance tellLines (w : Wit) (lv at' : Int) : PCon T0 n.law26_TellLines [eWit w, .int .i64 lv, .int .i64 at'] false (okWit w ∧ okN lv ∧ okN at') (.bool true) := ⟨fun ⟨ok, h1, h2⟩ => by
  have hv : okVd 0 0 0 0 lv w := ⟨by decide, by decide, by decide, by decide, h1, ok⟩
  have he : okVd 2 at' 0 0 0 zWit := ⟨by decide, h2, by decide, by decide, by decide, ⟨by decide, by decide, by decide, by decide, by decide, by decide, by decide⟩, by decide, fun _ h => by cases h⟩
  have hs := ok.2.1
  have v10 := vd_10 lv w
  have e10 := er_10 at'
  have vl := vd_len hv
  have el := vd_len he
  have c1 : PCon T0 n.tell_Text [eVd 0 0 0 0 lv 0 0 [] [] [] w] false True (.str (vdT 0 0 0 0 lv w)) := ⟨fun _ => (tell_Text 0 0 0 0 lv 0 0 [] [] [] w).con hv⟩
  have c2 : PCon T0 n.tell_Text [eVd 2 at' 0 0 0 0 0 [] [] [] zWit] false True (.str (vdT 2 at' 0 0 0 zWit)) := ⟨fun _ => (tell_Text 2 at' 0 0 0 0 0 [] [] [] zWit).con he⟩
  generalize vdT 0 0 0 0 lv w = s at c1 v10 vl
  generalize vdT 2 at' 0 0 0 zWit = t at c2 e10 el
  simp only [List.length_nil] at el
  have sl := c10_le s
  have tl := c10_le t
  refine pc tabOk ?_
  repeat' first | (apply dr_fin; (focus exact xx)) | (apply dr_gt; (focus exact xx)) | (apply dr_gf; (focus exact xx); (focus first | exact .inl rfl | exact .inr rfl); focus (first | exact InD.no | (apply InD.so; (focus exact xx)))) | (apply dr_v; focus (apply DV.mk; (focus exact RF.mk rfl); (focus exact RF.mk rfl); (focus exact RF.mk rfl); (focus exact RF.mk rfl); (focus exact xx); focus (first | exact InD.no | (apply InD.so; (focus exact xx))))) | (apply dr_ve; focus (apply DVE.mk; (focus exact RF.mk rfl); (focus exact RF.mk rfl); (focus exact RF.mk rfl); (focus exact xx); focus (first | exact InD.no | (apply InD.so; (focus exact xx))))) | (apply dr_r; focus (apply DL.mk; (focus exact RF.mk rfl); (focus exact xx); (focus exact xx); focus (first | exact InD.no | (apply InD.so; (focus exact xx))))) | (apply dr_l; (focus exact RF.mk rfl); (focus exact RF.mk rfl); (focus exact RF.mk rfl); (focus exact RF.mk rfl); (focus exact RF.mk rfl)) | (apply dr_e; (focus exact RF.mk rfl); (focus exact RF.mk rfl); (focus exact RF.mk rfl); (focus exact RF.mk rfl)) | (apply rd_e; (focus exact xx); focus (repeat first | exact PO.nil | apply PO.zero | (apply PO.ld; (focus exact xx)))) | (apply rd_l; (focus exact xx)) | refine wh_seq ?_ | refine wh_skip ?_ | refine wh_block ?_ | refine wh_end ?_ | refine wh_exit ?_ | refine wh_ret ?_ | refine bk_norm ?_ | refine bk_exit ?_ | refine bk_ret ?_ | refine fr_exit ?_ | refine fr_ret ?_ | refine lp_exit ?_ | refine lp_ret ?_ | refine jn_exit ?_ | refine jn_ret ?_ | refine bk_other rfl ?_ | (apply wr; focus exact xx) | (apply wi; (focus exact xx); (focus exact xx); all_goals intro _; all_goals try first | contradiction | (exfalso; omega) | exact absurd trivial ‹_›) | refine wh_reg ?_ | refine wh_ife ?_ | (apply re; focus exact xx) | (apply rf; (focus exact xx); (focus exact xx); all_goals intro _; all_goals try first | contradiction | (exfalso; omega) | exact absurd trivial ‹_›) | (apply ra; (focus exact xx); (focus exact xx); intro _) | (apply r1; (focus exact xx); (focus exact xx); intro _) | (apply rl; (focus exact xx); (focus exact xx); intro _) | (apply rb; (focus exact xx); (focus exact xx); intro _) | (apply rsi; (focus exact xx); (focus exact xx); all_goals try infer_instance) | (apply rsz; (focus exact xx); (focus exact xx); all_goals try infer_instance) | (apply rt; (focus exact xx); (focus exact xx)) | (apply rso; (focus exact xx); (focus exact xx); all_goals try infer_instance) | (apply rmm; (focus exact xx); intro _) | (apply rsb; (focus exact xx); (focus exact xx)) | (apply ru; (focus exact xx); (focus exact xx)) | (apply rm; (focus exact xx); (focus exact xx); intro _) | (apply rk; (focus exact xx); (focus exact xx); intro _) | (apply rcf; (focus exact xx); (focus (apply ACF.mk; (focus exact xx); (focus exact inferInstance); (focus exact xx); (focus exact inferInstance); (focus exact xx); (focus exact rfl)))) | (apply rco; (focus exact xx); (focus (apply ACO.mk; (focus exact xx); (focus exact xx); (focus exact inferInstance); (focus exact xx); (focus exact xx))); intro _) | (apply rc; (focus exact xx); (focus exact xx)) | (apply rk'; (focus exact xx); (focus exact xx))
  · exact fz rfl
  rename_i wid _
  refine wh_count s.length (fun i A L => A = [(3, .ptr wid 8 0 0), (7, .str s), (8, .str t), (9, .int .i64 (c10 (s.take i) : Nat)), (10, .int .i64 0), (11, .int .i64 (i : Nat))] ∧ L = [.ob wid (.row 8 false [eWit w])]) ⟨rfl, rfl⟩ ?_
  rintro i A L hi ⟨rfl, rfl⟩
  have k1 := c10_le (s.take i)
  rw [List.length_take] at k1
  by_cases hlt : i < s.length
  · have hst := c10_step hlt
    repeat' first | (apply dr_fin; (focus exact xx)) | (apply dr_gt; (focus exact xx)) | (apply dr_gf; (focus exact xx); (focus first | exact .inl rfl | exact .inr rfl); focus (first | exact InD.no | (apply InD.so; (focus exact xx)))) | (apply dr_v; focus (apply DV.mk; (focus exact RF.mk rfl); (focus exact RF.mk rfl); (focus exact RF.mk rfl); (focus exact RF.mk rfl); (focus exact xx); focus (first | exact InD.no | (apply InD.so; (focus exact xx))))) | (apply dr_ve; focus (apply DVE.mk; (focus exact RF.mk rfl); (focus exact RF.mk rfl); (focus exact RF.mk rfl); (focus exact xx); focus (first | exact InD.no | (apply InD.so; (focus exact xx))))) | (apply dr_r; focus (apply DL.mk; (focus exact RF.mk rfl); (focus exact xx); (focus exact xx); focus (first | exact InD.no | (apply InD.so; (focus exact xx))))) | (apply dr_l; (focus exact RF.mk rfl); (focus exact RF.mk rfl); (focus exact RF.mk rfl); (focus exact RF.mk rfl); (focus exact RF.mk rfl)) | (apply dr_e; (focus exact RF.mk rfl); (focus exact RF.mk rfl); (focus exact RF.mk rfl); (focus exact RF.mk rfl)) | (apply rd_e; (focus exact xx); focus (repeat first | exact PO.nil | apply PO.zero | (apply PO.ld; (focus exact xx)))) | (apply rd_l; (focus exact xx)) | refine wh_seq ?_ | refine wh_skip ?_ | refine wh_block ?_ | refine wh_end ?_ | refine wh_exit ?_ | refine wh_ret ?_ | refine bk_norm ?_ | refine bk_exit ?_ | refine bk_ret ?_ | refine fr_exit ?_ | refine fr_ret ?_ | refine lp_exit ?_ | refine lp_ret ?_ | refine jn_exit ?_ | refine jn_ret ?_ | refine bk_other rfl ?_ | (apply wr; focus exact xx) | (apply wi; (focus exact xx); (focus exact xx); all_goals intro _; all_goals try first | contradiction | (exfalso; omega) | exact absurd trivial ‹_›) | refine wh_reg ?_ | refine wh_ife ?_ | (apply re; focus exact xx) | (apply rf; (focus exact xx); (focus exact xx); all_goals intro _; all_goals try first | contradiction | (exfalso; omega) | exact absurd trivial ‹_›) | (apply ra; (focus exact xx); (focus exact xx); intro _) | (apply r1; (focus exact xx); (focus exact xx); intro _) | (apply rl; (focus exact xx); (focus exact xx); intro _) | (apply rb; (focus exact xx); (focus exact xx); intro _) | (apply rsi; (focus exact xx); (focus exact xx); all_goals try infer_instance) | (apply rsz; (focus exact xx); (focus exact xx); all_goals try infer_instance) | (apply rt; (focus exact xx); (focus exact xx)) | (apply rso; (focus exact xx); (focus exact xx); all_goals try infer_instance) | (apply rmm; (focus exact xx); intro _) | (apply rsb; (focus exact xx); (focus exact xx)) | (apply ru; (focus exact xx); (focus exact xx)) | (apply rm; (focus exact xx); (focus exact xx); intro _) | (apply rk; (focus exact xx); (focus exact xx); intro _) | (apply rcf; (focus exact xx); (focus (apply ACF.mk; (focus exact xx); (focus exact inferInstance); (focus exact xx); (focus exact inferInstance); (focus exact xx); (focus exact rfl)))) | (apply rco; (focus exact xx); (focus (apply ACO.mk; (focus exact xx); (focus exact xx); (focus exact inferInstance); (focus exact xx); (focus exact xx))); intro _) | (apply rc; (focus exact xx); (focus exact xx)) | (apply rk'; (focus exact xx); (focus exact xx))
    · rename_i h10
      refine fr_next (by omega) sbc ⟨?_, rfl⟩
      rw [hst, if_pos (by apply UInt8.toNat_inj.1; show _ = 10; omega)]
    · rename_i h10
      refine fr_next (by omega) sbc ⟨?_, rfl⟩
      rw [hst, if_neg (by intro h; rw [h] at h10; exact h10 rfl)]
      rfl
  · rw [show i = s.length by omega, List.take_length]
    repeat' first | (apply dr_fin; (focus exact xx)) | (apply dr_gt; (focus exact xx)) | (apply dr_gf; (focus exact xx); (focus first | exact .inl rfl | exact .inr rfl); focus (first | exact InD.no | (apply InD.so; (focus exact xx)))) | (apply dr_v; focus (apply DV.mk; (focus exact RF.mk rfl); (focus exact RF.mk rfl); (focus exact RF.mk rfl); (focus exact RF.mk rfl); (focus exact xx); focus (first | exact InD.no | (apply InD.so; (focus exact xx))))) | (apply dr_ve; focus (apply DVE.mk; (focus exact RF.mk rfl); (focus exact RF.mk rfl); (focus exact RF.mk rfl); (focus exact xx); focus (first | exact InD.no | (apply InD.so; (focus exact xx))))) | (apply dr_r; focus (apply DL.mk; (focus exact RF.mk rfl); (focus exact xx); (focus exact xx); focus (first | exact InD.no | (apply InD.so; (focus exact xx))))) | (apply dr_l; (focus exact RF.mk rfl); (focus exact RF.mk rfl); (focus exact RF.mk rfl); (focus exact RF.mk rfl); (focus exact RF.mk rfl)) | (apply dr_e; (focus exact RF.mk rfl); (focus exact RF.mk rfl); (focus exact RF.mk rfl); (focus exact RF.mk rfl)) | (apply rd_e; (focus exact xx); focus (repeat first | exact PO.nil | apply PO.zero | (apply PO.ld; (focus exact xx)))) | (apply rd_l; (focus exact xx)) | refine wh_seq ?_ | refine wh_skip ?_ | refine wh_block ?_ | refine wh_end ?_ | refine wh_exit ?_ | refine wh_ret ?_ | refine bk_norm ?_ | refine bk_exit ?_ | refine bk_ret ?_ | refine fr_exit ?_ | refine fr_ret ?_ | refine lp_exit ?_ | refine lp_ret ?_ | refine jn_exit ?_ | refine jn_ret ?_ | refine bk_other rfl ?_ | (apply wr; focus exact xx) | (apply wi; (focus exact xx); (focus exact xx); all_goals intro _; all_goals try first | contradiction | (exfalso; omega) | exact absurd trivial ‹_›) | refine wh_reg ?_ | refine wh_ife ?_ | (apply re; focus exact xx) | (apply rf; (focus exact xx); (focus exact xx); all_goals intro _; all_goals try first | contradiction | (exfalso; omega) | exact absurd trivial ‹_›) | (apply ra; (focus exact xx); (focus exact xx); intro _) | (apply r1; (focus exact xx); (focus exact xx); intro _) | (apply rl; (focus exact xx); (focus exact xx); intro _) | (apply rb; (focus exact xx); (focus exact xx); intro _) | (apply rsi; (focus exact xx); (focus exact xx); all_goals try infer_instance) | (apply rsz; (focus exact xx); (focus exact xx); all_goals try infer_instance) | (apply rt; (focus exact xx); (focus exact xx)) | (apply rso; (focus exact xx); (focus exact xx); all_goals try infer_instance) | (apply rmm; (focus exact xx); intro _) | (apply rsb; (focus exact xx); (focus exact xx)) | (apply ru; (focus exact xx); (focus exact xx)) | (apply rm; (focus exact xx); (focus exact xx); intro _) | (apply rk; (focus exact xx); (focus exact xx); intro _) | (apply rcf; (focus exact xx); (focus (apply ACF.mk; (focus exact xx); (focus exact inferInstance); (focus exact xx); (focus exact inferInstance); (focus exact xx); (focus exact rfl)))) | (apply rco; (focus exact xx); (focus (apply ACO.mk; (focus exact xx); (focus exact xx); (focus exact inferInstance); (focus exact xx); (focus exact xx))); intro _) | (apply rc; (focus exact xx); (focus exact xx)) | (apply rk'; (focus exact xx); (focus exact xx))
    refine wh_count t.length (fun i A L => A = [(3, .ptr wid 8 0 0), (8, .str t), (9, .int .i64 (c10 s : Nat)), (10, .int .i64 (c10 (t.take i) : Nat)), (12, .int .i64 (i : Nat))] ∧ L = [.ob wid (.row 8 false [eWit w])]) ⟨rfl, rfl⟩ ?_
    rintro j A L hj ⟨rfl, rfl⟩
    have k2 := c10_le (t.take j)
    rw [List.length_take] at k2
    by_cases hlj : j < t.length
    · have hst := c10_step hlj
      repeat' first | (apply dr_fin; (focus exact xx)) | (apply dr_gt; (focus exact xx)) | (apply dr_gf; (focus exact xx); (focus first | exact .inl rfl | exact .inr rfl); focus (first | exact InD.no | (apply InD.so; (focus exact xx)))) | (apply dr_v; focus (apply DV.mk; (focus exact RF.mk rfl); (focus exact RF.mk rfl); (focus exact RF.mk rfl); (focus exact RF.mk rfl); (focus exact xx); focus (first | exact InD.no | (apply InD.so; (focus exact xx))))) | (apply dr_ve; focus (apply DVE.mk; (focus exact RF.mk rfl); (focus exact RF.mk rfl); (focus exact RF.mk rfl); (focus exact xx); focus (first | exact InD.no | (apply InD.so; (focus exact xx))))) | (apply dr_r; focus (apply DL.mk; (focus exact RF.mk rfl); (focus exact xx); (focus exact xx); focus (first | exact InD.no | (apply InD.so; (focus exact xx))))) | (apply dr_l; (focus exact RF.mk rfl); (focus exact RF.mk rfl); (focus exact RF.mk rfl); (focus exact RF.mk rfl); (focus exact RF.mk rfl)) | (apply dr_e; (focus exact RF.mk rfl); (focus exact RF.mk rfl); (focus exact RF.mk rfl); (focus exact RF.mk rfl)) | (apply rd_e; (focus exact xx); focus (repeat first | exact PO.nil | apply PO.zero | (apply PO.ld; (focus exact xx)))) | (apply rd_l; (focus exact xx)) | refine wh_seq ?_ | refine wh_skip ?_ | refine wh_block ?_ | refine wh_end ?_ | refine wh_exit ?_ | refine wh_ret ?_ | refine bk_norm ?_ | refine bk_exit ?_ | refine bk_ret ?_ | refine fr_exit ?_ | refine fr_ret ?_ | refine lp_exit ?_ | refine lp_ret ?_ | refine jn_exit ?_ | refine jn_ret ?_ | refine bk_other rfl ?_ | (apply wr; focus exact xx) | (apply wi; (focus exact xx); (focus exact xx); all_goals intro _; all_goals try first | contradiction | (exfalso; omega) | exact absurd trivial ‹_›) | refine wh_reg ?_ | refine wh_ife ?_ | (apply re; focus exact xx) | (apply rf; (focus exact xx); (focus exact xx); all_goals intro _; all_goals try first | contradiction | (exfalso; omega) | exact absurd trivial ‹_›) | (apply ra; (focus exact xx); (focus exact xx); intro _) | (apply r1; (focus exact xx); (focus exact xx); intro _) | (apply rl; (focus exact xx); (focus exact xx); intro _) | (apply rb; (focus exact xx); (focus exact xx); intro _) | (apply rsi; (focus exact xx); (focus exact xx); all_goals try infer_instance) | (apply rsz; (focus exact xx); (focus exact xx); all_goals try infer_instance) | (apply rt; (focus exact xx); (focus exact xx)) | (apply rso; (focus exact xx); (focus exact xx); all_goals try infer_instance) | (apply rmm; (focus exact xx); intro _) | (apply rsb; (focus exact xx); (focus exact xx)) | (apply ru; (focus exact xx); (focus exact xx)) | (apply rm; (focus exact xx); (focus exact xx); intro _) | (apply rk; (focus exact xx); (focus exact xx); intro _) | (apply rcf; (focus exact xx); (focus (apply ACF.mk; (focus exact xx); (focus exact inferInstance); (focus exact xx); (focus exact inferInstance); (focus exact xx); (focus exact rfl)))) | (apply rco; (focus exact xx); (focus (apply ACO.mk; (focus exact xx); (focus exact xx); (focus exact inferInstance); (focus exact xx); (focus exact xx))); intro _) | (apply rc; (focus exact xx); (focus exact xx)) | (apply rk'; (focus exact xx); (focus exact xx))
      · rename_i h10
        refine fr_next (by omega) sbc ⟨?_, rfl⟩
        rw [hst, if_pos (by apply UInt8.toNat_inj.1; show _ = 10; omega)]
      · rename_i h10
        refine fr_next (by omega) sbc ⟨?_, rfl⟩
        rw [hst, if_neg (by intro h; rw [h] at h10; exact h10 rfl)]
        rfl
    · rw [show j = t.length by omega, List.take_length]
      repeat' first | (apply dr_fin; (focus exact xx)) | (apply dr_gt; (focus exact xx)) | (apply dr_gf; (focus exact xx); (focus first | exact .inl rfl | exact .inr rfl); focus (first | exact InD.no | (apply InD.so; (focus exact xx)))) | (apply dr_v; focus (apply DV.mk; (focus exact RF.mk rfl); (focus exact RF.mk rfl); (focus exact RF.mk rfl); (focus exact RF.mk rfl); (focus exact xx); focus (first | exact InD.no | (apply InD.so; (focus exact xx))))) | (apply dr_ve; focus (apply DVE.mk; (focus exact RF.mk rfl); (focus exact RF.mk rfl); (focus exact RF.mk rfl); (focus exact xx); focus (first | exact InD.no | (apply InD.so; (focus exact xx))))) | (apply dr_r; focus (apply DL.mk; (focus exact RF.mk rfl); (focus exact xx); (focus exact xx); focus (first | exact InD.no | (apply InD.so; (focus exact xx))))) | (apply dr_l; (focus exact RF.mk rfl); (focus exact RF.mk rfl); (focus exact RF.mk rfl); (focus exact RF.mk rfl); (focus exact RF.mk rfl)) | (apply dr_e; (focus exact RF.mk rfl); (focus exact RF.mk rfl); (focus exact RF.mk rfl); (focus exact RF.mk rfl)) | (apply rd_e; (focus exact xx); focus (repeat first | exact PO.nil | apply PO.zero | (apply PO.ld; (focus exact xx)))) | (apply rd_l; (focus exact xx)) | refine wh_seq ?_ | refine wh_skip ?_ | refine wh_block ?_ | refine wh_end ?_ | refine wh_exit ?_ | refine wh_ret ?_ | refine bk_norm ?_ | refine bk_exit ?_ | refine bk_ret ?_ | refine fr_exit ?_ | refine fr_ret ?_ | refine lp_exit ?_ | refine lp_ret ?_ | refine jn_exit ?_ | refine jn_ret ?_ | refine bk_other rfl ?_ | (apply wr; focus exact xx) | (apply wi; (focus exact xx); (focus exact xx); all_goals intro _; all_goals try first | contradiction | (exfalso; omega) | exact absurd trivial ‹_›) | refine wh_reg ?_ | refine wh_ife ?_ | (apply re; focus exact xx) | (apply rf; (focus exact xx); (focus exact xx); all_goals intro _; all_goals try first | contradiction | (exfalso; omega) | exact absurd trivial ‹_›) | (apply ra; (focus exact xx); (focus exact xx); intro _) | (apply r1; (focus exact xx); (focus exact xx); intro _) | (apply rl; (focus exact xx); (focus exact xx); intro _) | (apply rb; (focus exact xx); (focus exact xx); intro _) | (apply rsi; (focus exact xx); (focus exact xx); all_goals try infer_instance) | (apply rsz; (focus exact xx); (focus exact xx); all_goals try infer_instance) | (apply rt; (focus exact xx); (focus exact xx)) | (apply rso; (focus exact xx); (focus exact xx); all_goals try infer_instance) | (apply rmm; (focus exact xx); intro _) | (apply rsb; (focus exact xx); (focus exact xx)) | (apply ru; (focus exact xx); (focus exact xx)) | (apply rm; (focus exact xx); (focus exact xx); intro _) | (apply rk; (focus exact xx); (focus exact xx); intro _) | (apply rcf; (focus exact xx); (focus (apply ACF.mk; (focus exact xx); (focus exact inferInstance); (focus exact xx); (focus exact inferInstance); (focus exact xx); (focus exact rfl)))) | (apply rco; (focus exact xx); (focus (apply ACO.mk; (focus exact xx); (focus exact xx); (focus exact inferInstance); (focus exact xx); (focus exact xx))); intro _) | (apply rc; (focus exact xx); (focus exact xx)) | (apply rk'; (focus exact xx); (focus exact xx))
      refine fz ?_
      rw [v10, e10]
      simp⟩
end Go.AM

set_option linter.unusedVariables false
set_option linter.unusedSimpArgs false
namespace Go.AM
open Go.RowKit Go.Deep Go.Proofs
attribute [-simp] List.length_flatten List.map_flatten List.map_take List.map_map List.flatten_append
abbrev gStep : Stp → Int × Int × Int × Int × Int := fun x => (x.k, x.a, x.b, x.c, x.d)
abbrev EStep' : Enc Stp := eStruct (fCons (eInt .i64) (fCons (eInt .i64) (fCons (eInt .i64) (fCons (eInt .i64) (fOne (eInt .i64)))))) gStep
def wtStep (x : Stp) : Nat := (1 + (1 + (1 + (1 + 1)))) + 1
def wfI (i : Int) : Prop := (Lit.int IntKind.i64 i).wf = true
def wfStep (x : Stp) : Prop := (Lit.int IntKind.i64 x.k).wf = true ∧ (Lit.int IntKind.i64 x.a).wf = true ∧ (Lit.int IntKind.i64 x.b).wf = true ∧ (Lit.int IntKind.i64 x.c).wf = true ∧ (Lit.int IntKind.i64 x.d).wf = true
abbrev gWitness : Wit → Int × Int × Int × Int × Int × List Stp × Int × Int := fun w => (w.k, w.r, w.w1, w.w2, w.o, w.st, w.f, w.s)
abbrev EWitness' : Enc Wit := eStruct (fCons (eInt .i64) (fCons (eInt .i64) (fCons (eInt .i64) (fCons (eInt .i64) (fCons (eInt .i64) (fCons (eList EStep') (fCons (eInt .i64) (fOne (eInt .i64))))))))) gWitness
def wtWitness (w : Wit) : Nat := (1 + (1 + (1 + (1 + (1 + ((wsum wtStep w.st + 1) + (1 + 1))))))) + 1
def wfWitness (w : Wit) : Prop := (Lit.int IntKind.i64 w.k).wf = true ∧ (Lit.int IntKind.i64 w.r).wf = true ∧ (Lit.int IntKind.i64 w.w1).wf = true ∧ (Lit.int IntKind.i64 w.w2).wf = true ∧ (Lit.int IntKind.i64 w.o).wf = true ∧ (∀ x ∈ w.st, wfStep x) ∧ (Lit.int IntKind.i64 w.f).wf = true ∧ (Lit.int IntKind.i64 w.s).wf = true
theorem wsum_len {α : Type} {wt : α → Nat} (h1 : ∀ x, 1 ≤ wt x) (l : List α) : l.length ≤ wsum wt l := by
  induction l with
  | nil => simp [wsum]
  | cons a r ih => simp only [wsum, List.length_cons]; have := h1 a; omega
theorem okN_of {i : Int} (h : (Lit.int .i64 i).wf = true) : okN i := by
  simp only [Lit.wf, Bool.and_eq_true, decide_eq_true_eq] at h
  exact h
theorem okWit_of {w : Wit} (hb' : wtWitness w ≤ 1048576) (hw : wfWitness w) : okWit w := by
  obtain ⟨h1, h2, h3, h4, h5, h6, h7, h8⟩ := hw
  have := wsum_len (wt := wtStep) (fun x => by unfold wtStep; omega) w.st
  unfold wtWitness at hb'
  exact ⟨⟨okN_of h1, okN_of h2, okN_of h3, okN_of h4, okN_of h5, okN_of h7, okN_of h8⟩, by omega, fun x hx => ⟨okN_of (h6 x hx).1, okN_of (h6 x hx).2.1, okN_of (h6 x hx).2.2.1, okN_of (h6 x hx).2.2.2.1, okN_of (h6 x hx).2.2.2.2⟩⟩
theorem tellLines_ok (w : Wit) (lv at' : Int) (hb' : wtWitness w + (fun _ : Int => 1) lv + (fun _ : Int => 1) at' ≤ 1048576) (h0 : wfWitness w) (h1 : (fun a => (Lit.int .i64 a).wf = true) lv) (h2 : (fun a => (Lit.int .i64 a).wf = true) at') : okWit w ∧ okN lv ∧ okN at' := by
  simp only at hb'
  exact ⟨okWit_of (by omega) h0, okN_of h1, okN_of h2⟩
end Go.AM

