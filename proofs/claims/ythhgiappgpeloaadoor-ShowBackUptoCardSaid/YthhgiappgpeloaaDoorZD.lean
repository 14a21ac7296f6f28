/- Part ZD of the proof. -/
import Derived.Test.YthhgiappgpeloaaDoorZC
import Derived.Test.YthhgiappgpeloaaDoorA3
set_option linter.unusedVariables false
set_option linter.unusedSimpArgs false
namespace Go.AM
open Go.Lib
attribute [-simp] List.length_flatten List.map_flatten List.map_take List.map_map List.flatten_append
theorem itoa1 : itoa 1 = [49] := by rw [itoa, if_neg (by decide)]; exact dec_small (u := 1) (by decide)
theorem itoa0 : itoa 0 = [48] := by rw [itoa, if_neg (by decide)]; exact dec_small (u := 0) (by decide)
abbrev h08 : List (List Op) := [[⟨true, [120], 1⟩, ⟨false, [121], 0⟩]]
abbrev v08 : V := .lst [.lst [.agg [.bool true, .str [120], .int .i64 1], .agg [.bool false, .str [121], .int .i64 0]]]
abbrev k08 : List (List Op) := [[⟨false, [], 0⟩]]
abbrev w08 : V := .lst [.lst [.agg [.bool false, .str [], .int .i64 0]]]
theorem show_h08 : showV h08 = .tup [.str [119, 58, 120, 61, 49, 32, 114, 58, 121, 61, 48, 10], .int .i64 0] := by
  rw [showV, if_pos (by decide)]
  show V.tup [.str ((opT ⟨true, [120], 1⟩ ++ ([⟨false, [121], 0⟩] : List Op).flatMap fun o => 32 :: opT o) ++ [10] ++ []), .int .i64 0] = _
  unfold opT
  simp [itoa1, itoa0]
theorem show_k08 : showV k08 = .tup [.str [], .int .i64 1] := by
  rw [showV, if_neg (by decide)]
theorem ok_h08 : okHx h08 := ⟨⟨by decide, by decide⟩, by
  intro o ho
  simp only [h08, List.flatten_cons, List.flatten_nil, List.append_nil, List.mem_cons, List.not_mem_nil, or_false] at ho
  rcases ho with rfl | rfl <;> exact ⟨by decide, by decide, by decide⟩⟩
theorem ok_k08 : okHx k08 := ⟨⟨by decide, by decide⟩, by
  intro o ho
  simp only [k08, List.flatten_cons, List.flatten_nil, List.append_nil, List.mem_cons, List.not_mem_nil, or_false] at ho
  subst ho
  exact ⟨by decide, by decide, by decide⟩⟩
set_option maxHeartbeats 2000000 in
instance awake08 : PCon T0 n.law08_awake [] false True (.bool true) := ⟨fun _ => by
  have c1 : PCon T0 n.show_Text [v08] false True (.tup [.str [119, 58, 120, 61, 49, 32, 114, 58, 121, 61, 48, 10], .int .i64 0]) := ⟨fun _ => by
    have := (show_Text h08).con ok_h08
    rwa [show_h08] at this⟩
  have c2 : PCon T0 n.show_Text [w08] false True (.tup [.str [], .int .i64 1]) := ⟨fun _ => by
    have := (show_Text k08).con ok_k08
    rwa [show_k08] at this⟩
  refine pc tabOk ?_
  repeat' first | (apply dr_fin; (focus exact xx)) | (apply dr_gt; (focus exact xx)) | (apply dr_gf; (focus exact xx); (focus first | exact .inl rfl | exact .inr rfl); focus (first | exact InD.no | (apply InD.so; (focus exact xx)))) | (apply dr_v; focus (apply DV.mk; (focus exact RF.mk rfl); (focus exact RF.mk rfl); (focus exact RF.mk rfl); (focus exact RF.mk rfl); (focus exact xx); focus (first | exact InD.no | (apply InD.so; (focus exact xx))))) | (apply dr_ve; focus (apply DVE.mk; (focus exact RF.mk rfl); (focus exact RF.mk rfl); (focus exact RF.mk rfl); (focus exact xx); focus (first | exact InD.no | (apply InD.so; (focus exact xx))))) | (apply dr_r; focus (apply DL.mk; (focus exact RF.mk rfl); (focus exact xx); (focus exact xx); focus (first | exact InD.no | (apply InD.so; (focus exact xx))))) | (apply dr_l; (focus exact RF.mk rfl); (focus exact RF.mk rfl); (focus exact RF.mk rfl); (focus exact RF.mk rfl); (focus exact RF.mk rfl)) | (apply dr_e; (focus exact RF.mk rfl); (focus exact RF.mk rfl); (focus exact RF.mk rfl); (focus exact RF.mk rfl)) | (apply rd_e; (focus exact xx); focus (repeat first | exact PO.nil | apply PO.zero | (apply PO.ld; (focus exact xx)))) | (apply rd_l; (focus exact xx)) | refine wh_seq ?_ | refine wh_skip ?_ | refine wh_block ?_ | refine wh_end ?_ | refine wh_exit ?_ | refine wh_ret ?_ | refine bk_norm ?_ | refine bk_exit ?_ | refine bk_ret ?_ | refine fr_exit ?_ | refine fr_ret ?_ | refine lp_exit ?_ | refine lp_ret ?_ | refine jn_exit ?_ | refine jn_ret ?_ | refine bk_other rfl ?_ | (apply wr; focus exact xx) | (apply wi; (focus exact xx); (focus exact xx); all_goals intro _; all_goals try first | contradiction | (exfalso; omega) | exact absurd trivial ‹_›) | refine wh_reg ?_ | refine wh_ife ?_ | (apply re; focus exact xx) | (apply rf; (focus exact xx); (focus exact xx); all_goals intro _; all_goals try first | contradiction | (exfalso; omega) | exact absurd trivial ‹_›) | (apply ra; (focus exact xx); (focus exact xx); intro _) | (apply r1; (focus exact xx); (focus exact xx); intro _) | (apply rl; (focus exact xx); (focus exact xx); intro _) | (apply rb; (focus exact xx); (focus exact xx); intro _) | (apply rsi; (focus exact xx); (focus exact xx); all_goals try infer_instance) | (apply rsz; (focus exact xx); (focus exact xx); all_goals try infer_instance) | (apply rt; (focus exact xx); (focus exact xx)) | (apply rso; (focus exact xx); (focus exact xx); all_goals try infer_instance) | (apply rmm; (focus exact xx); intro _) | (apply rsb; (focus exact xx); (focus exact xx)) | (apply ru; (focus exact xx); (focus exact xx)) | (apply rm; (focus exact xx); (focus exact xx); intro _) | (apply rk; (focus exact xx); (focus exact xx); intro _) | (apply rcf; (focus exact xx); (focus (apply ACF.mk; (focus exact xx); (focus exact inferInstance); (focus exact xx); (focus exact inferInstance); (focus exact xx); (focus exact rfl)))) | (apply rco; (focus exact xx); (focus (apply ACO.mk; (focus exact xx); (focus exact xx); (focus exact inferInstance); (focus exact xx); (focus exact xx))); intro _) | (apply rc; (focus exact xx); (focus exact xx)) | (apply rk'; (focus exact xx); (focus exact xx))
  exact fz rfl⟩
theorem show_ex {h : List (List Op)} (ok : okHx h) : ∃ t e, showV h = .tup [.str t, .int .i64 e] ∧ t.length ≤ 1500000 := by
  unfold showV
  split
  · rename_i hr
    obtain ⟨r1, r2⟩ := right_ops ok hr
    have := (part_len ok.1 r1 r2 (Nat.le_refl h.length) 0).1
    rw [List.take_length] at this
    exact ⟨_, _, rfl, this⟩
  · exact ⟨_, _, rfl, by simp⟩
theorem small_max {h : List (List Op)} {m : Nat} (hs : smallB h m = true) : h.length ≤ m ∧ h.flatten.length ≤ m ∧ ∀ o ∈ h.flatten, o.v.length ≤ 20 := by
  simp only [smallB, Bool.and_eq_true, decide_eq_true_eq, List.all_eq_true] at hs
  exact ⟨by omega, by omega, hs.2.2⟩
set_option maxHeartbeats 2000000 in
instance showTells (h : List (List Op)) (o : Op) : PCon T0 n.law08_ShowTells [eH h, eOp o] false (okHx h ∧ okO o) (.bool true) := ⟨fun ⟨ok, oo⟩ => by
  have b := ok.1
  have o1 := oo.1
  obtain ⟨t, e, he, hl⟩ := show_ex ok
  have c2 : PCon T0 n.show_Text [eH h] false True (.tup [.str t, .int .i64 e]) := ⟨fun _ => by
    have := (show_Text h).con ok
    rwa [he] at this⟩
  have c3 : PCon T0 n.ref08_Text [eH h] false True (.tup [.str t, .int .i64 e]) := ⟨fun _ => by
    have := (ref08_Text h).con ok
    rwa [he] at this⟩
  have c4 : PCon T0 n.show_Op [eOp o] false True (.str (opT o)) := ⟨fun _ => (show_Op o).con oo⟩
  have c5 : PCon T0 n.ref08_Op [eOp o] false True (.str (opT o)) := ⟨fun _ => (ref08_Op o).con oo⟩
  cases hs : smallB h 60 with
  | false =>
    have c1 : PCon T0 n.ref06_Small [eH h, .int .i64 60] false True (.bool false) := ⟨fun _ => by
      have := (ref06_Small h 60).con b
      rwa [hs] at this⟩
    refine pc tabOk ?_
    repeat' first | (apply dr_fin; (focus exact xx)) | (apply dr_gt; (focus exact xx)) | (apply dr_gf; (focus exact xx); (focus first | exact .inl rfl | exact .inr rfl); focus (first | exact InD.no | (apply InD.so; (focus exact xx)))) | (apply dr_v; focus (apply DV.mk; (focus exact RF.mk rfl); (focus exact RF.mk rfl); (focus exact RF.mk rfl); (focus exact RF.mk rfl); (focus exact xx); focus (first | exact InD.no | (apply InD.so; (focus exact xx))))) | (apply dr_ve; focus (apply DVE.mk; (focus exact RF.mk rfl); (focus exact RF.mk rfl); (focus exact RF.mk rfl); (focus exact xx); focus (first | exact InD.no | (apply InD.so; (focus exact xx))))) | (apply dr_r; focus (apply DL.mk; (focus exact RF.mk rfl); (focus exact xx); (focus exact xx); focus (first | exact InD.no | (apply InD.so; (focus exact xx))))) | (apply dr_l; (focus exact RF.mk rfl); (focus exact RF.mk rfl); (focus exact RF.mk rfl); (focus exact RF.mk rfl); (focus exact RF.mk rfl)) | (apply dr_e; (focus exact RF.mk rfl); (focus exact RF.mk rfl); (focus exact RF.mk rfl); (focus exact RF.mk rfl)) | (apply rd_e; (focus exact xx); focus (repeat first | exact PO.nil | apply PO.zero | (apply PO.ld; (focus exact xx)))) | (apply rd_l; (focus exact xx)) | refine wh_seq ?_ | refine wh_skip ?_ | refine wh_block ?_ | refine wh_end ?_ | refine wh_exit ?_ | refine wh_ret ?_ | refine bk_norm ?_ | refine bk_exit ?_ | refine bk_ret ?_ | refine fr_exit ?_ | refine fr_ret ?_ | refine lp_exit ?_ | refine lp_ret ?_ | refine jn_exit ?_ | refine jn_ret ?_ | refine bk_other rfl ?_ | (apply wr; focus exact xx) | (apply wi; (focus exact xx); (focus exact xx); all_goals intro _; all_goals try first | contradiction | (exfalso; omega) | exact absurd trivial ‹_›) | refine wh_reg ?_ | refine wh_ife ?_ | (apply re; focus exact xx) | (apply rf; (focus exact xx); (focus exact xx); all_goals intro _; all_goals try first | contradiction | (exfalso; omega) | exact absurd trivial ‹_›) | (apply ra; (focus exact xx); (focus exact xx); intro _) | (apply r1; (focus exact xx); (focus exact xx); intro _) | (apply rl; (focus exact xx); (focus exact xx); intro _) | (apply rb; (focus exact xx); (focus exact xx); intro _) | (apply rsi; (focus exact xx); (focus exact xx); all_goals try infer_instance) | (apply rsz; (focus exact xx); (focus exact xx); all_goals try infer_instance) | (apply rt; (focus exact xx); (focus exact xx)) | (apply rso; (focus exact xx); (focus exact xx); all_goals try infer_instance) | (apply rmm; (focus exact xx); intro _) | (apply rsb; (focus exact xx); (focus exact xx)) | (apply ru; (focus exact xx); (focus exact xx)) | (apply rm; (focus exact xx); (focus exact xx); intro _) | (apply rk; (focus exact xx); (focus exact xx); intro _) | (apply rcf; (focus exact xx); (focus (apply ACF.mk; (focus exact xx); (focus exact inferInstance); (focus exact xx); (focus exact inferInstance); (focus exact xx); (focus exact rfl)))) | (apply rco; (focus exact xx); (focus (apply ACO.mk; (focus exact xx); (focus exact xx); (focus exact inferInstance); (focus exact xx); (focus exact xx))); intro _) | (apply rc; (focus exact xx); (focus exact xx)) | (apply rk'; (focus exact xx); (focus exact xx))
    all_goals first
      | exact fz rfl
      | (refine fz ?_; simp)
  | true =>
    have c1 : PCon T0 n.ref06_Small [eH h, .int .i64 60] false True (.bool true) := ⟨fun _ => by
      have := (ref06_Small h 60).con b
      rwa [hs] at this⟩
    refine pc tabOk ?_
    repeat' first | (apply dr_fin; (focus exact xx)) | (apply dr_gt; (focus exact xx)) | (apply dr_gf; (focus exact xx); (focus first | exact .inl rfl | exact .inr rfl); focus (first | exact InD.no | (apply InD.so; (focus exact xx)))) | (apply dr_v; focus (apply DV.mk; (focus exact RF.mk rfl); (focus exact RF.mk rfl); (focus exact RF.mk rfl); (focus exact RF.mk rfl); (focus exact xx); focus (first | exact InD.no | (apply InD.so; (focus exact xx))))) | (apply dr_ve; focus (apply DVE.mk; (focus exact RF.mk rfl); (focus exact RF.mk rfl); (focus exact RF.mk rfl); (focus exact xx); focus (first | exact InD.no | (apply InD.so; (focus exact xx))))) | (apply dr_r; focus (apply DL.mk; (focus exact RF.mk rfl); (focus exact xx); (focus exact xx); focus (first | exact InD.no | (apply InD.so; (focus exact xx))))) | (apply dr_l; (focus exact RF.mk rfl); (focus exact RF.mk rfl); (focus exact RF.mk rfl); (focus exact RF.mk rfl); (focus exact RF.mk rfl)) | (apply dr_e; (focus exact RF.mk rfl); (focus exact RF.mk rfl); (focus exact RF.mk rfl); (focus exact RF.mk rfl)) | (apply rd_e; (focus exact xx); focus (repeat first | exact PO.nil | apply PO.zero | (apply PO.ld; (focus exact xx)))) | (apply rd_l; (focus exact xx)) | refine wh_seq ?_ | refine wh_skip ?_ | refine wh_block ?_ | refine wh_end ?_ | refine wh_exit ?_ | refine wh_ret ?_ | refine bk_norm ?_ | refine bk_exit ?_ | refine bk_ret ?_ | refine fr_exit ?_ | refine fr_ret ?_ | refine lp_exit ?_ | refine lp_ret ?_ | refine jn_exit ?_ | refine jn_ret ?_ | refine bk_other rfl ?_ | (apply wr; focus exact xx) | (apply wi; (focus exact xx); (focus exact xx); all_goals intro _; all_goals try first | contradiction | (exfalso; omega) | exact absurd trivial ‹_›) | refine wh_reg ?_ | refine wh_ife ?_ | (apply re; focus exact xx) | (apply rf; (focus exact xx); (focus exact xx); all_goals intro _; all_goals try first | contradiction | (exfalso; omega) | exact absurd trivial ‹_›) | (apply ra; (focus exact xx); (focus exact xx); intro _) | (apply r1; (focus exact xx); (focus exact xx); intro _) | (apply rl; (focus exact xx); (focus exact xx); intro _) | (apply rb; (focus exact xx); (focus exact xx); intro _) | (apply rsi; (focus exact xx); (focus exact xx); all_goals try infer_instance) | (apply rsz; (focus exact xx); (focus exact xx); all_goals try infer_instance) | (apply rt; (focus exact xx); (focus exact xx)) | (apply rso; (focus exact xx); (focus exact xx); all_goals try infer_instance) | (apply rmm; (focus exact xx); intro _) | (apply rsb; (focus exact xx); (focus exact xx)) | (apply ru; (focus exact xx); (focus exact xx)) | (apply rm; (focus exact xx); (focus exact xx); intro _) | (apply rk; (focus exact xx); (focus exact xx); intro _) | (apply rcf; (focus exact xx); (focus (apply ACF.mk; (focus exact xx); (focus exact inferInstance); (focus exact xx); (focus exact inferInstance); (focus exact xx); (focus exact rfl)))) | (apply rco; (focus exact xx); (focus (apply ACO.mk; (focus exact xx); (focus exact xx); (focus exact inferInstance); (focus exact xx); (focus exact xx))); intro _) | (apply rc; (focus exact xx); (focus exact xx)) | (apply rk'; (focus exact xx); (focus exact xx))
    all_goals first
      | exact fz rfl
      | (refine fz ?_; simp)⟩
end Go.AM

set_option linter.unusedVariables false
set_option linter.unusedSimpArgs false
namespace Go.AM
open Go.Lib
attribute [-simp] List.length_flatten List.map_flatten List.map_take List.map_map List.flatten_append
theorem right_app (a b : List (List Op)) (h : (a ++ b).flatten.length ≤ 4096) : rightB (a ++ b) = (rightB a && rightB b) := by
  simp only [rightB, List.flatten_append, List.all_append, List.length_append] at h ⊢
  have e1 : decide (a.flatten.length + b.flatten.length ≤ 4096) = true := by simpa using h
  have e2 : decide (a.flatten.length ≤ 4096) = true := by simp; omega
  have e3 : decide (b.flatten.length ≤ 4096) = true := by simp; omega
  simp [e1, e2, e3]
theorem tx_app (a b : List (List Op)) : txT (a ++ b) = txT a ++ txT b := by simp [txT]
theorem show_len {h : List (List Op)} (ok : okHx h) (hr : rightB h = true) : (txT h).length ≤ 1500000 := by
  obtain ⟨r1, r2⟩ := right_ops ok hr
  have := (part_len ok.1 r1 r2 (Nat.le_refl h.length) 0).1
  rwa [List.take_length] at this
theorem show_t {h : List (List Op)} (hr : rightB h = true) : showV h = .tup [.str (txT h), .int .i64 0] := by rw [showV, if_pos hr]
theorem show_f {h : List (List Op)} (hr : rightB h = false) : showV h = .tup [.str [], .int .i64 1] := by rw [showV, if_neg (by simp [hr])]
theorem pc_show {h : List (List Op)} {v : V} (ok : okHx h) (hv : showV h = v) : PCon T0 n.show_Text [eH h] false True v := ⟨fun _ => by
  have := (show_Text h).con ok
  rwa [hv] at this⟩
set_option maxHeartbeats 4000000 in
instance showJoins (a b : List (List Op)) : PCon T0 n.law08_ShowJoins [eH a, eH b] false (okHx a ∧ okHx b) (.bool true) := ⟨fun ⟨oa, ob⟩ => by
  by_cases hn : smallB a 40 = true ∧ smallB b 40 = true
  · obtain ⟨na, nb⟩ := hn
    obtain ⟨m1, m2, m3⟩ := small_max (m := 40) na
    obtain ⟨m4, m5, m6⟩ := small_max (m := 40) nb
    have hfl : (a ++ b).flatten.length = a.flatten.length + b.flatten.length := by rw [List.flatten_append, List.length_append]
    have oc : okHx (a ++ b) := ⟨⟨by rw [List.length_append]; omega, by omega⟩, fun o ho => by
      rw [List.flatten_append, List.mem_append] at ho
      rcases ho with ho | ho
      · exact oa.2 o ho
      · exact ob.2 o ho⟩
    have c1 : PCon T0 n.ref06_Small [eH a, .int .i64 40] false True (.bool true) := ⟨fun _ => by
      have := (ref06_Small a 40).con oa.1
      rwa [na] at this⟩
    have c2 : PCon T0 n.ref06_Small [eH b, .int .i64 40] false True (.bool true) := ⟨fun _ => by
      have := (ref06_Small b 40).con ob.1
      rwa [nb] at this⟩
    have hrc := right_app a b (by omega)
    have key : ∀ s e t f u g, (showV a = .tup [.str s, .int .i64 e]) → (showV b = .tup [.str t, .int .i64 f]) → showV (a ++ b) = .tup [.str u, .int .i64 g] → s.length ≤ 1500000 → t.length ≤ 1500000 →
        ((decide (g = 0) == (decide (e = 0) && decide (f = 0))) && (!decide (g = 0) || decide (u = s ++ t))) = true → PC T0 n.law08_ShowJoins [eH a, eH b] false (.bool true) := by
      intro s e t f u g h1 h2 h3 h4 h5 h6
      have d1 := pc_show oa h1
      have d2 := pc_show ob h2
      have d3 := pc_show oc h3
      refine pc tabOk ?_
      repeat' first | (apply dr_fin; (focus exact xx)) | (apply dr_gt; (focus exact xx)) | (apply dr_gf; (focus exact xx); (focus first | exact .inl rfl | exact .inr rfl); focus (first | exact InD.no | (apply InD.so; (focus exact xx)))) | (apply dr_v; focus (apply DV.mk; (focus exact RF.mk rfl); (focus exact RF.mk rfl); (focus exact RF.mk rfl); (focus exact RF.mk rfl); (focus exact xx); focus (first | exact InD.no | (apply InD.so; (focus exact xx))))) | (apply dr_ve; focus (apply DVE.mk; (focus exact RF.mk rfl); (focus exact RF.mk rfl); (focus exact RF.mk rfl); (focus exact xx); focus (first | exact InD.no | (apply InD.so; (focus exact xx))))) | (apply dr_r; focus (apply DL.mk; (focus exact RF.mk rfl); (focus exact xx); (focus exact xx); focus (first | exact InD.no | (apply InD.so; (focus exact xx))))) | (apply dr_l; (focus exact RF.mk rfl); (focus exact RF.mk rfl); (focus exact RF.mk rfl); (focus exact RF.mk rfl); (focus exact RF.mk rfl)) | (apply dr_e; (focus exact RF.mk rfl); (focus exact RF.mk rfl); (focus exact RF.mk rfl); (focus exact RF.mk rfl)) | (apply rd_e; (focus exact xx); focus (repeat first | exact PO.nil | apply PO.zero | (apply PO.ld; (focus exact xx)))) | (apply rd_l; (focus exact xx)) | refine wh_seq ?_ | refine wh_skip ?_ | refine wh_block ?_ | refine wh_end ?_ | refine wh_exit ?_ | refine wh_ret ?_ | refine bk_norm ?_ | refine bk_exit ?_ | refine bk_ret ?_ | refine fr_exit ?_ | refine fr_ret ?_ | refine lp_exit ?_ | refine lp_ret ?_ | refine jn_exit ?_ | refine jn_ret ?_ | refine bk_other rfl ?_ | (apply wr; focus exact xx) | (apply wi; (focus exact xx); (focus exact xx); all_goals intro _; all_goals try first | contradiction | (exfalso; omega) | exact absurd trivial ‹_›) | refine wh_reg ?_ | refine wh_ife ?_ | (apply re; focus exact xx) | (apply rf; (focus exact xx); (focus exact xx); all_goals intro _; all_goals try first | contradiction | (exfalso; omega) | exact absurd trivial ‹_›) | (apply ra; (focus exact xx); (focus exact xx); intro _) | (apply r1; (focus exact xx); (focus exact xx); intro _) | (apply rl; (focus exact xx); (focus exact xx); intro _) | (apply rb; (focus exact xx); (focus exact xx); intro _) | (apply rsi; (focus exact xx); (focus exact xx); all_goals try infer_instance) | (apply rsz; (focus exact xx); (focus exact xx); all_goals try infer_instance) | (apply rt; (focus exact xx); (focus exact xx)) | (apply rso; (focus exact xx); (focus exact xx); all_goals try infer_instance) | (apply rmm; (focus exact xx); intro _) | (apply rsb; (focus exact xx); (focus exact xx)) | (apply ru; (focus exact xx); (focus exact xx)) | (apply rm; (focus exact xx); (focus exact xx); intro _) | (apply rk; (focus exact xx); (focus exact xx); intro _) | (apply rcf; (focus exact xx); (focus (apply ACF.mk; (focus exact xx); (focus exact inferInstance); (focus exact xx); (focus exact inferInstance); (focus exact xx); (focus exact rfl)))) | (apply rco; (focus exact xx); (focus (apply ACO.mk; (focus exact xx); (focus exact xx); (focus exact inferInstance); (focus exact xx); (focus exact xx))); intro _) | (apply rc; (focus exact xx); (focus exact xx)) | (apply rk'; (focus exact xx); (focus exact xx))
      rw [List.replicate_zero, List.nil_append, ← List.map_append]
      repeat' first | (apply dr_fin; (focus exact xx)) | (apply dr_gt; (focus exact xx)) | (apply dr_gf; (focus exact xx); (focus first | exact .inl rfl | exact .inr rfl); focus (first | exact InD.no | (apply InD.so; (focus exact xx)))) | (apply dr_v; focus (apply DV.mk; (focus exact RF.mk rfl); (focus exact RF.mk rfl); (focus exact RF.mk rfl); (focus exact RF.mk rfl); (focus exact xx); focus (first | exact InD.no | (apply InD.so; (focus exact xx))))) | (apply dr_ve; focus (apply DVE.mk; (focus exact RF.mk rfl); (focus exact RF.mk rfl); (focus exact RF.mk rfl); (focus exact xx); focus (first | exact InD.no | (apply InD.so; (focus exact xx))))) | (apply dr_r; focus (apply DL.mk; (focus exact RF.mk rfl); (focus exact xx); (focus exact xx); focus (first | exact InD.no | (apply InD.so; (focus exact xx))))) | (apply dr_l; (focus exact RF.mk rfl); (focus exact RF.mk rfl); (focus exact RF.mk rfl); (focus exact RF.mk rfl); (focus exact RF.mk rfl)) | (apply dr_e; (focus exact RF.mk rfl); (focus exact RF.mk rfl); (focus exact RF.mk rfl); (focus exact RF.mk rfl)) | (apply rd_e; (focus exact xx); focus (repeat first | exact PO.nil | apply PO.zero | (apply PO.ld; (focus exact xx)))) | (apply rd_l; (focus exact xx)) | refine wh_seq ?_ | refine wh_skip ?_ | refine wh_block ?_ | refine wh_end ?_ | refine wh_exit ?_ | refine wh_ret ?_ | refine bk_norm ?_ | refine bk_exit ?_ | refine bk_ret ?_ | refine fr_exit ?_ | refine fr_ret ?_ | refine lp_exit ?_ | refine lp_ret ?_ | refine jn_exit ?_ | refine jn_ret ?_ | refine bk_other rfl ?_ | (apply wr; focus exact xx) | (apply wi; (focus exact xx); (focus exact xx); all_goals intro _; all_goals try first | contradiction | (exfalso; omega) | exact absurd trivial ‹_›) | refine wh_reg ?_ | refine wh_ife ?_ | (apply re; focus exact xx) | (apply rf; (focus exact xx); (focus exact xx); all_goals intro _; all_goals try first | contradiction | (exfalso; omega) | exact absurd trivial ‹_›) | (apply ra; (focus exact xx); (focus exact xx); intro _) | (apply r1; (focus exact xx); (focus exact xx); intro _) | (apply rl; (focus exact xx); (focus exact xx); intro _) | (apply rb; (focus exact xx); (focus exact xx); intro _) | (apply rsi; (focus exact xx); (focus exact xx); all_goals try infer_instance) | (apply rsz; (focus exact xx); (focus exact xx); all_goals try infer_instance) | (apply rt; (focus exact xx); (focus exact xx)) | (apply rso; (focus exact xx); (focus exact xx); all_goals try infer_instance) | (apply rmm; (focus exact xx); intro _) | (apply rsb; (focus exact xx); (focus exact xx)) | (apply ru; (focus exact xx); (focus exact xx)) | (apply rm; (focus exact xx); (focus exact xx); intro _) | (apply rk; (focus exact xx); (focus exact xx); intro _) | (apply rcf; (focus exact xx); (focus (apply ACF.mk; (focus exact xx); (focus exact inferInstance); (focus exact xx); (focus exact inferInstance); (focus exact xx); (focus exact rfl)))) | (apply rco; (focus exact xx); (focus (apply ACO.mk; (focus exact xx); (focus exact xx); (focus exact inferInstance); (focus exact xx); (focus exact xx))); intro _) | (apply rc; (focus exact xx); (focus exact xx)) | (apply rk'; (focus exact xx); (focus exact xx))
      refine fz ?_
      exact congrArg V.bool (by simpa using h6)
    cases ha : rightB a <;> cases hb' : rightB b <;> rw [ha, hb'] at hrc
    · exact key _ _ _ _ _ _ (show_f ha) (show_f hb') (show_f hrc) (by simp) (by simp) (by simp)
    · exact key _ _ _ _ _ _ (show_f ha) (show_t hb') (show_f hrc) (by simp) (show_len ob hb') (by simp)
    · exact key _ _ _ _ _ _ (show_t ha) (show_f hb') (show_f hrc) (show_len oa ha) (by simp) (by simp)
    · exact key _ _ _ _ _ _ (show_t ha) (show_t hb') (show_t hrc) (show_len oa ha) (show_len ob hb') (by simp [tx_app])
  · have na : smallB a 40 = true → ¬ smallB b 40 = true := fun h1 h2 => hn ⟨h1, h2⟩
    have b1 := oa.1
    have b2 := ob.1
    refine pc tabOk ?_
    repeat' first | (apply dr_fin; (focus exact xx)) | (apply dr_gt; (focus exact xx)) | (apply dr_gf; (focus exact xx); (focus first | exact .inl rfl | exact .inr rfl); focus (first | exact InD.no | (apply InD.so; (focus exact xx)))) | (apply dr_v; focus (apply DV.mk; (focus exact RF.mk rfl); (focus exact RF.mk rfl); (focus exact RF.mk rfl); (focus exact RF.mk rfl); (focus exact xx); focus (first | exact InD.no | (apply InD.so; (focus exact xx))))) | (apply dr_ve; focus (apply DVE.mk; (focus exact RF.mk rfl); (focus exact RF.mk rfl); (focus exact RF.mk rfl); (focus exact xx); focus (first | exact InD.no | (apply InD.so; (focus exact xx))))) | (apply dr_r; focus (apply DL.mk; (focus exact RF.mk rfl); (focus exact xx); (focus exact xx); focus (first | exact InD.no | (apply InD.so; (focus exact xx))))) | (apply dr_l; (focus exact RF.mk rfl); (focus exact RF.mk rfl); (focus exact RF.mk rfl); (focus exact RF.mk rfl); (focus exact RF.mk rfl)) | (apply dr_e; (focus exact RF.mk rfl); (focus exact RF.mk rfl); (focus exact RF.mk rfl); (focus exact RF.mk rfl)) | (apply rd_e; (focus exact xx); focus (repeat first | exact PO.nil | apply PO.zero | (apply PO.ld; (focus exact xx)))) | (apply rd_l; (focus exact xx)) | refine wh_seq ?_ | refine wh_skip ?_ | refine wh_block ?_ | refine wh_end ?_ | refine wh_exit ?_ | refine wh_ret ?_ | refine bk_norm ?_ | refine bk_exit ?_ | refine bk_ret ?_ | refine fr_exit ?_ | refine fr_ret ?_ | refine lp_exit ?_ | refine lp_ret ?_ | refine jn_exit ?_ | refine jn_ret ?_ | refine bk_other rfl ?_ | (apply wr; focus exact xx) | (apply wi; (focus exact xx); (focus exact xx); all_goals intro _; all_goals try first | contradiction | (exfalso; omega) | exact absurd trivial ‹_›) | refine wh_reg ?_ | refine wh_ife ?_ | (apply re; focus exact xx) | (apply rf; (focus exact xx); (focus exact xx); all_goals intro _; all_goals try first | contradiction | (exfalso; omega) | exact absurd trivial ‹_›) | (apply ra; (focus exact xx); (focus exact xx); intro _) | (apply r1; (focus exact xx); (focus exact xx); intro _) | (apply rl; (focus exact xx); (focus exact xx); intro _) | (apply rb; (focus exact xx); (focus exact xx); intro _) | (apply rsi; (focus exact xx); (focus exact xx); all_goals try infer_instance) | (apply rsz; (focus exact xx); (focus exact xx); all_goals try infer_instance) | (apply rt; (focus exact xx); (focus exact xx)) | (apply rso; (focus exact xx); (focus exact xx); all_goals try infer_instance) | (apply rmm; (focus exact xx); intro _) | (apply rsb; (focus exact xx); (focus exact xx)) | (apply ru; (focus exact xx); (focus exact xx)) | (apply rm; (focus exact xx); (focus exact xx); intro _) | (apply rk; (focus exact xx); (focus exact xx); intro _) | (apply rcf; (focus exact xx); (focus (apply ACF.mk; (focus exact xx); (focus exact inferInstance); (focus exact xx); (focus exact inferInstance); (focus exact xx); (focus exact rfl)))) | (apply rco; (focus exact xx); (focus (apply ACO.mk; (focus exact xx); (focus exact xx); (focus exact inferInstance); (focus exact xx); (focus exact xx))); intro _) | (apply rc; (focus exact xx); (focus exact xx)) | (apply rk'; (focus exact xx); (focus exact xx))
    · exact fz rfl
    · rename_i h; exact (h (by by_cases hh : smallB a 40 = true
                               · exact .inr (na hh)
                               · exact .inl hh)).elim⟩
end Go.AM

set_option linter.unusedVariables false
set_option linter.unusedSimpArgs false
namespace Go.AM
open Go.RowKit Go.Deep Go.Proofs
attribute [-simp] List.length_flatten List.map_flatten List.map_take List.map_map List.flatten_append
abbrev gOp : Op → Bool × List UInt8 × Int := fun x => (x.w, x.v, x.x)
abbrev EOp' : Enc Op := eStruct (fCons eBool (fCons eStr (fOne (eInt .i64)))) gOp
def wtOp (x : Op) : Nat := (1 + (x.v.length + 1 + 1)) + 1
def wfOp (x : Op) : Prop := True ∧ True ∧ (Lit.int IntKind.i64 x.x).wf = true
theorem wsum_mem {α : Type} {wt : α → Nat} {l : List α} {x : α} (h : x ∈ l) : wt x ≤ wsum wt l := by
  induction l with
  | nil => cases h
  | cons a r ih =>
    simp only [wsum]
    rcases List.mem_cons.1 h with rfl | h
    · omega
    · have := ih h; omega
theorem wsum_len {α : Type} {wt : α → Nat} (h1 : ∀ x, 1 ≤ wt x) (l : List α) : l.length ≤ wsum wt l := by
  induction l with
  | nil => simp [wsum]
  | cons a r ih => simp only [wsum, List.length_cons]; have := h1 a; omega
theorem wsum_flat {α : Type} {wt : α → Nat} (h1 : ∀ x, 1 ≤ wt x) (h : List (List α)) : h.flatten.length ≤ wsum (fun l => wsum wt l + 1) h := by
  induction h with
  | nil => simp [wsum]
  | cons a r ih =>
    simp only [wsum, List.flatten_cons, List.length_append]
    have := wsum_len h1 a; omega
theorem okN_of {i : Int} (h : (Lit.int .i64 i).wf = true) : okN i := by
  simp only [Lit.wf, Bool.and_eq_true, decide_eq_true_eq] at h
  exact h
theorem okO_of {o : Op} (hb' : wtOp o ≤ 1048576) (hw : wfOp o) : okO o := ⟨by unfold wtOp at hb'; omega, okN_of hw.2.2⟩
theorem okHx_of {h : List (List Op)} (hb' : wsum (fun xs => wsum wtOp xs + 1) h + 1 ≤ 1048576) (hw : ∀ l ∈ h, ∀ o ∈ l, wfOp o) : okHx h := by
  have h1 : ∀ x, 1 ≤ wtOp x := fun x => by unfold wtOp; omega
  have h2 := wsum_flat h1 h
  have h3 := wsum_len (wt := fun l => wsum wtOp l + 1) (fun x => by omega) h
  refine ⟨⟨by omega, by omega⟩, fun o ho => ?_⟩
  obtain ⟨l, hl, ho⟩ := List.mem_flatten.1 ho
  have h4 := wsum_mem (wt := fun l => wsum wtOp l + 1) hl
  have h5 := wsum_mem (wt := wtOp) ho
  exact okO_of (by omega) (hw l hl o ho)
theorem showTells_ok (h : List (List Op)) (o : Op) (hb' : (fun xs => wsum (fun xs => wsum wtOp xs + 1) xs + 1) h + wtOp o ≤ 1048576) (h0 : (fun xs => ∀ x ∈ xs, (fun xs => ∀ x ∈ xs, wfOp x) x) h) (h1 : wfOp o) : okHx h ∧ okO o := by
  simp only at hb'
  exact ⟨okHx_of (by omega) h0, okO_of (by omega) h1⟩
theorem showJoins_ok (a b : List (List Op)) (hb' : (fun xs => wsum (fun xs => wsum wtOp xs + 1) xs + 1) a + (fun xs => wsum (fun xs => wsum wtOp xs + 1) xs + 1) b ≤ 1048576) (h0 : (fun xs => ∀ x ∈ xs, (fun xs => ∀ x ∈ xs, wfOp x) x) a) (h1 : (fun xs => ∀ x ∈ xs, (fun xs => ∀ x ∈ xs, wfOp x) x) b) : okHx a ∧ okHx b := by
  simp only at hb'
  exact ⟨okHx_of (by omega) h0, okHx_of (by omega) h1⟩
end Go.AM

