-- written by a program (wip/tools/pr.py: the kit's print over this seat)
import Derived.Test.YtcnjnollmamifaaPKinds
import Derived.Test.YtcnjnollmamifaaPRef06Right
import Derived.Test.YtcnjnollmamifaaPRef09Find
namespace Go.Proofs.Ytcnjnollmamifaa.P
open Go.RowKit Go.Proofs.YtcnjnollmamifaaW.PrintWords Go.Proofs.YtcnjnollmamifaaW.PrintLast Go.Proofs.YtcnjnollmamifaaW.PrintMore
attribute [local go_sem] max2_int min2_int max_two min_two max_three min_three max_four min_four   -- for this text's walks alone
set_option linter.unusedVariables false
set_option linter.unusedSimpArgs false

/-! ### eyewitnessref09_Of: function 15 -/
mutual
def eyewitnessref09_Of.l0 : Nat → List (List (S45)) → Int → List ByteArray → List (S40) → Option (List ByteArray × (List (S40)) × List Int × Int)
 | 0, _, _, _, _ => none
 | k + 1, x0, x5, x122000, x122001 => if x5 < (x0.length : Int) then (eyewitnessref09_Of.l1 k x0 x5 0 x122000 x122001) else (some (x122000, x122001, ([] : List Int), 0))
def eyewitnessref09_Of.l1 : Nat → List (List (S45)) → Int → Int → List ByteArray → List (S40) → Option (List ByteArray × (List (S40)) × List Int × Int)
 | 0, _, _, _, _, _ => none
 | k + 1, x0, x5, x6, x122000, x122001 => if 0 ≤ x5 then (if x5 < (x0.length : Int) then (if x6 < ((rd_L4 x0 x5).length : Int) then (if 0 ≤ x6 then ((eyewitnessref09_find.f k x122000 ((rd_T45 (rd_L4 x0 x5) x6).f1)).bind fun t126 => (if t126 < 0 then (if x122000.length < 8796093022208 then (if x122001.length < 3518437208883 then (eyewitnessref09_Of.l1 k x0 x5 (wrap64 (x6 + 1)) (x122000 ++ [(rd_T45 (rd_L4 x0 x5) x6).f1]) (x122001 ++ [(⟨x5, x6, (rd_T45 (rd_L4 x0 x5) x6).f0, (x122000.length : Int), (rd_T45 (rd_L4 x0 x5) x6).f2⟩ : S40)])) else (none)) else (none)) else (if x122001.length < 3518437208883 then (eyewitnessref09_Of.l1 k x0 x5 (wrap64 (x6 + 1)) x122000 (x122001 ++ [(⟨x5, x6, (rd_T45 (rd_L4 x0 x5) x6).f0, t126, (rd_T45 (rd_L4 x0 x5) x6).f2⟩ : S40)])) else (none)))) else (none)) else (eyewitnessref09_Of.l0 k x0 (wrap64 (x5 + 1)) x122000 x122001)) else (none)) else (none)
end
def eyewitnessref09_Of.f (k : Nat) (l0 : List (List (S45))) : Option (List ByteArray × (List (S40)) × List Int × Int) := (eyewitnessref06_Right.f k l0).bind fun t120 => (if t120 = true then (eyewitnessref09_Of.l0 k l0 0 ([] : List ByteArray) ([] : List (S40))) else (some (([] : List ByteArray), ([] : List (S40)), ([] : List Int), 1)))
theorem eyewitnessref09_Of.mono_l : ∀ k, (∀ y0 y1 y2 y3, LeO (eyewitnessref09_Of.l0 k y0 y1 y2 y3) (eyewitnessref09_Of.l0 (k + 1) y0 y1 y2 y3)) ∧ (∀ y0 y1 y2 y3 y4, LeO (eyewitnessref09_Of.l1 k y0 y1 y2 y3 y4) (eyewitnessref09_Of.l1 (k + 1) y0 y1 y2 y3 y4))
 | 0 => ⟨fun _ _ _ _ r h => by simp [eyewitnessref09_Of.l0] at h, fun _ _ _ _ _ r h => by simp [eyewitnessref09_Of.l1] at h⟩
 | k + 1 => by
  obtain ⟨ih0, ih1⟩ := eyewitnessref09_Of.mono_l k
  refine ⟨?_, ?_⟩
  ·intro y0 y1 y2 y3
   unfold eyewitnessref09_Of.l0
   repeat' first
   | (with_reducible exact ih0 _ _ _ _)
   | (with_reducible exact ih1 _ _ _ _ _)
   | (with_reducible exact eyewitnessref06_Right.mono _ _)
   | (with_reducible exact eyewitnessref09_find.mono _ _ _)
   | (with_reducible exact LeO.refl _)
   | (with_reducible exact LeO.none _)
   | (with_reducible refine LeO.ite ?_ ?_)
   | (with_reducible refine LeO.bind ?_ (fun _ => ?_))
   | exact ih0 _ _ _ _
   | exact ih1 _ _ _ _ _
   | exact eyewitnessref06_Right.mono _ _
   | exact eyewitnessref09_find.mono _ _ _
   | exact LeO.none _
   | refine LeO.ite ?_ ?_
   | refine LeO.bind ?_ (fun _ => ?_)
  ·intro y0 y1 y2 y3 y4
   unfold eyewitnessref09_Of.l1
   repeat' first
   | (with_reducible exact ih0 _ _ _ _)
   | (with_reducible exact ih1 _ _ _ _ _)
   | (with_reducible exact eyewitnessref06_Right.mono _ _)
   | (with_reducible exact eyewitnessref09_find.mono _ _ _)
   | (with_reducible exact LeO.refl _)
   | (with_reducible exact LeO.none _)
   | (with_reducible refine LeO.ite ?_ ?_)
   | (with_reducible refine LeO.bind ?_ (fun _ => ?_))
   | exact ih0 _ _ _ _
   | exact ih1 _ _ _ _ _
   | exact eyewitnessref06_Right.mono _ _
   | exact eyewitnessref09_find.mono _ _ _
   | exact LeO.none _
   | refine LeO.ite ?_ ?_
   | refine LeO.bind ?_ (fun _ => ?_)
theorem eyewitnessref09_Of.mono : ∀ a0 k, LeO (eyewitnessref09_Of.f k a0) (eyewitnessref09_Of.f (k + 1) a0) := by
 intro a0 k
 obtain ⟨ih0, ih1⟩ := eyewitnessref09_Of.mono_l k
 unfold eyewitnessref09_Of.f
 repeat' first
   | (with_reducible exact ih0 _ _ _ _)
   | (with_reducible exact ih1 _ _ _ _ _)
   | (with_reducible exact eyewitnessref06_Right.mono _ _)
   | (with_reducible exact eyewitnessref09_find.mono _ _ _)
   | (with_reducible exact LeO.refl _)
   | (with_reducible exact LeO.none _)
   | (with_reducible refine LeO.ite ?_ ?_)
   | (with_reducible refine LeO.bind ?_ (fun _ => ?_))
   | exact ih0 _ _ _ _
   | exact ih1 _ _ _ _ _
   | exact eyewitnessref06_Right.mono _ _
   | exact eyewitnessref09_find.mono _ _ _
   | exact LeO.none _
   | refine LeO.ite ?_ ?_
   | refine LeO.bind ?_ (fun _ => ?_)
set_option maxHeartbeats 8000000 in
set_option maxRecDepth 100000 in
theorem eyewitnessref09_Of.calls (k : Nat) (A0 : Option Addr) (c0 : Nat) (l0 : List (List (S45))) (r1 : List ByteArray) (r2 : List (S40)) (r3 : List Int) (r4 : Int) (w : World) (hr0 : Kd.C (Kd.slice 45 k45) w A0 l0.length l0) (hc0 : l0.length ≤ c0) (h : eyewitnessref09_Of.f k l0 = some (r1, r2, r3, r4)) :
  Calls Try.prog 15 #[.slice A0 l0.length c0] w fun e w' => ∃ v0_ v1_ v2_ : Value, e = .returned (.tuple #[.agg #[v0_, v1_, v2_], .int .i64 r4]) ∧ Kd.R Kd.string 9 w' w.heap.size (fun _ => True) v0_ r1 ∧ Kd.R k40 40 w' w.heap.size (fun _ => True) v1_ r2 ∧ Kd.R (Kd.int .i64) 3 w' w.heap.size (fun _ => True) v2_ r3 ∧ Below w.heap.size w w' := by
 have hu31 := Try.underlying31
 have hu45 := Try.underlying45
 have hu40 := Try.underlying40
 have HR0 := Aside0.mk hr0
 have HC0 := Aside0.mk hc0
 clear hr0 hc0
 have HB := Aside0.mk (Below.refl w.heap.size w)
 have H : ((eyewitnessref06_Right.f k l0).bind fun t120 => (if t120 = true then (eyewitnessref09_Of.l0 k l0 0 ([] : List ByteArray) ([] : List (S40))) else (some (([] : List ByteArray), ([] : List (S40)), ([] : List Int), 1)))) = some (r1, r2, r3, r4) := h
 clear h
 replace H := Option.bind_eq_some_iff.mp H
 obtain ⟨t120, A20, H⟩ := H
 replace H : (if t120 = true then (eyewitnessref09_Of.l0 k l0 0 ([] : List ByteArray) ([] : List (S40))) else (some (([] : List ByteArray), ([] : List (S40)), ([] : List Int), 1))) = some (r1, r2, r3, r4) := H
 have A2 := Aside0.mk A20
 clear A20
 by_cases c3 : t120 = true
 ·subst c3
  have H1 : (eyewitnessref09_Of.l0 k l0 0 ([] : List ByteArray) ([] : List (S40))) = some (r1, r2, r3, r4) := by rw [if_pos rfl] at H; exact H
  clear H
  have H := H1
  clear H1
  have H' := Aside0.mk H
  clear H
  go_enter Try.func15, Try.ntmps15
  go_wp2_with (first | ((with_reducible refine gate_dst (N := 2) rfl ?_); refine box_event ?hg (N := 2) ?hd (cs := #[.slice none 0 0, .slice none 0 0, .slice none 0 0]) (t := 31) ?hr ?_; (case hd => rfl); (case hg => rfl); (case hr => first | (go_simp; done) | (go_simp; rfl)); intro gb119 hg w4 hbox hb; have n0_ := Aside0.mk (below_step tH hb); have n1_ := Aside0.mk (hbox); have n2_ := Aside0.mk ((by rw [hg]; exact (below_size tH) : w.heap.size ≤ gb119)); have n3_ := Aside0.mk ((by rw [hg]; exact (below_size tH) : w.heap.size ≤ gb119)); clear HB; have HB := n0_; have BK119 := n1_; have GW119 := n2_; have GE119 := n3_; clear n0_ n1_ n2_ n3_; clear hb hbox hg) | ((with_reducible refine gate_callee (f := 22) rfl ?_); refine goesL_ (some 10) rfl rfl Try.func22 (by kernel_rfl) rfl #[.slice A0 l0.length c0] rfl (by (try simp only [List.map_toArray, List.map_cons, List.map_nil]); first | done | rfl | (simp only [List.length_drop, List.length_take]; rfl)) ?_; (with_reducible refine (eyewitnessref06_Right.calls k _ _ l0 true _ ?side1 ?side2 A2.out).mono ?_); (case side1 => exact tC HR0); (case side2 => exact HC0.out); rintro e w5 ⟨rfl, hb⟩; refine ⟨_, rfl, ?_⟩; have n0_ := Aside0.mk (blk_below (g := gb119) tB hb); have n1_ := Aside0.mk (below_step tH hb); clear BK119; clear HB; have BK119 := n0_; have HB := n1_; clear n0_ n1_; (try clear hb); (try clear hb2); (try clear hk); (try clear hi)) | ((with_reducible refine gate_dst (N := 4) rfl ?_); refine box_event ?hg (N := 4) ?hd (cs := #[.slice none 0 0, .slice none 0 0, .slice none 0 0]) (t := 31) ?hr ?_; (case hd => rfl); (case hg => rfl); (case hr => first | (go_simp; done) | (go_simp; rfl)); intro gb121 hg w6 hbox hb; have n0_ := Aside0.mk (blk_below (g := gb119) tB hb); have n1_ := Aside0.mk (below_step tH hb); have n2_ := Aside0.mk (hbox); have n3_ := Aside0.mk ((by rw [hg]; exact (below_size tH) : w.heap.size ≤ gb121)); have n4_ := Aside0.mk ((by rw [hg]; exact (below_size tH) : w.heap.size ≤ gb121)); have n5_ := Aside0.mk ((by rw [hg]; exact Nat.ne_of_lt (blk_lt (g := gb119) tB) : gb119 ≠ gb121)); have n6_ := Aside0.mk ((by rw [hg]; exact Nat.ne_of_gt (blk_lt (g := gb119) tB) : gb121 ≠ gb119)); clear BK119; clear HB; have BK119 := n0_; have HB := n1_; have BK121 := n2_; have GW121 := n3_; have GE121 := n4_; have NB119_121 := n5_; have NB121_119 := n6_; clear n0_ n1_ n2_ n3_ n4_ n5_ n6_; clear hb hbox hg))
  go_loopg [5] k (fun kq v5 w' => ∃ (x5_1 : Int) (x122000_1 : List ByteArray) (x122001_1 : List (S40)) (u122000 : Value) (u122001 : Value), v5 = .int .i64 x5_1 ∧ Aside0 (eyewitnessref09_Of.l0 kq l0 x5_1 x122000_1 x122001_1 = some (r1, r2, r3, r4)) ∧ Aside0 (kq ≤ k) ∧ Aside0 (Kd.R Kd.string 9 w' w.heap.size (fun _ => True) u122000 x122000_1) ∧ Aside0 (Kd.R k40 40 w' w.heap.size (fun _ => True) u122001 x122001_1) ∧ Aside0 (w'.heap[gb119]? = some (.cells #[(.slice none 0 0), (.slice none 0 0), (.slice none 0 0)] 31 (0, 0))) ∧ Aside0 (w'.heap[gb121]? = some (.cells #[u122000, u122001, (.slice none 0 0)] 31 (0, 0))) ∧ Aside0 (Below w.heap.size w w'))
  case atStart => exact ⟨(0), (([] : List ByteArray)), (([] : List (S40))), (.slice none 0 0), (.slice none 0 0), (by first | rfl | (simp; done) | (simp [*]; done)), H', ⟨Nat.le_refl _⟩, ⟨by first | exact Kd.R_nil _ _ _ _ _ | exact Kd.N_nil _ _ _ _ _ | exact Kd.V_nil _ _ _ _ _ | exact Kd.Q_nil _ _ _ _ _ | exact Kd.S_nil _ _ _ _ _⟩, ⟨by first | exact Kd.R_nil _ _ _ _ _ | exact Kd.N_nil _ _ _ _ _ | exact Kd.V_nil _ _ _ _ _ | exact Kd.Q_nil _ _ _ _ _ | exact Kd.S_nil _ _ _ _ _⟩, ⟨by (with_reducible repeat (first | refine blk_drewN ?_ _ | refine blk_drew ?_ | refine blk_alloc ?_ _)); exact BK119.out⟩, ⟨by (with_reducible repeat (first | refine blk_drewN ?_ _ | refine blk_drew ?_ | refine blk_alloc ?_ _)); exact BK121.out⟩, ⟨tH⟩⟩
  case round =>
   clear H'
   try clear c1
   try clear c2
   try clear p2
   try clear c3
   obtain ⟨x5_1, x122000_1, x122001_1, u122000, u122001, rfl, HA, HK1, HO_122000, HO_122001, BK119, BK121, HB⟩ := hrel
   cases gk with
   | zero => exact absurd HA.out (by simp [eyewitnessref09_Of.l0])
   | succ k1 =>
    have H := HA.out
    clear HA
    simp only [eyewitnessref09_Of.l0] at H
    by_cases c7 : x5_1 < (l0.length : Int)
    ·rw [if_pos c7] at H
     have c7b0 : decide (x5_1 < (l0.length : Int)) = true := decide_eq_true c7
     clear c7
     have H' := Aside0.mk H
     clear H
     go_wp2
     go_loopg [6] k1 (fun kq v6 w' => ∃ (x6_2 : Int) (x122000_2 : List ByteArray) (x122001_2 : List (S40)) (u122000 : Value) (u122001 : Value), v6 = .int .i64 x6_2 ∧ Aside0 (eyewitnessref09_Of.l1 kq l0 x5_1 x6_2 x122000_2 x122001_2 = some (r1, r2, r3, r4)) ∧ Aside0 (kq ≤ k1) ∧ Aside0 (Kd.R Kd.string 9 w' w.heap.size (fun _ => True) u122000 x122000_2) ∧ Aside0 (Kd.R k40 40 w' w.heap.size (fun _ => True) u122001 x122001_2) ∧ Aside0 (w'.heap[gb119]? = some (.cells #[(.slice none 0 0), (.slice none 0 0), (.slice none 0 0)] 31 (0, 0))) ∧ Aside0 (w'.heap[gb121]? = some (.cells #[u122000, u122001, (.slice none 0 0)] 31 (0, 0))) ∧ Aside0 (Below w.heap.size w w'))
     case atStart => exact ⟨(0), (x122000_1), (x122001_1), (u122000), (u122001), (by first | rfl | (simp; done) | (simp [*]; done)), H', ⟨Nat.le_refl _⟩, ⟨by (with_reducible repeat (first | apply Kd.R_alloc | apply Kd.R_drewN | apply Kd.R_drew)); exact HO_122000.out⟩, ⟨by (with_reducible repeat (first | apply Kd.R_alloc | apply Kd.R_drewN | apply Kd.R_drew)); exact HO_122001.out⟩, ⟨by (with_reducible repeat (first | refine blk_drewN ?_ _ | refine blk_drew ?_ | refine blk_alloc ?_ _)); exact BK119.out⟩, ⟨by (with_reducible repeat (first | refine blk_drewN ?_ _ | refine blk_drew ?_ | refine blk_alloc ?_ _)); exact BK121.out⟩, ⟨tH⟩⟩
     case round =>
      clear H'
      try clear c1
      try clear c2
      try clear p2
      try clear c3
      try clear c7
      try clear c7b0
      try clear p2
      obtain ⟨x6_2, x122000_2, x122001_2, u122000, u122001, rfl, HA, HK2, HO_122000, HO_122001, BK119, BK121, HB⟩ := hrel
      cases gk with
      | zero => exact absurd HA.out (by simp [eyewitnessref09_Of.l1])
      | succ k2 =>
       have H := HA.out
       clear HA
       simp only [eyewitnessref09_Of.l1] at H
       by_cases c8 : 0 ≤ x5_1
       ·rw [if_pos c8] at H
        have c8b0 : decide (0 ≤ x5_1) = true := decide_eq_true c8
        clear c8
        by_cases c9 : x5_1 < (l0.length : Int)
        ·rw [if_pos c9] at H
         have c9b0 : decide (x5_1 < (l0.length : Int)) = true := decide_eq_true c9
         clear c9
         by_cases c10 : x6_2 < ((rd_L4 l0 x5_1).length : Int)
         ·rw [if_pos c10] at H
          have c10b0 : decide (x6_2 < ((rd_L4 l0 x5_1).length : Int)) = true := decide_eq_true c10
          clear c10
          by_cases c11 : 0 ≤ x6_2
          ·rw [if_pos c11] at H
           have c11b0 : decide (0 ≤ x6_2) = true := decide_eq_true c11
           clear c11
           replace H := Option.bind_eq_some_iff.mp H
           obtain ⟨t126, A120, H⟩ := H
           replace H : (if t126 < 0 then (if x122000_2.length < 8796093022208 then (if x122001_2.length < 3518437208883 then (eyewitnessref09_Of.l1 k2 l0 x5_1 (wrap64 (x6_2 + 1)) (x122000_2 ++ [(rd_T45 (rd_L4 l0 x5_1) x6_2).f1]) (x122001_2 ++ [(⟨x5_1, x6_2, (rd_T45 (rd_L4 l0 x5_1) x6_2).f0, (x122000_2.length : Int), (rd_T45 (rd_L4 l0 x5_1) x6_2).f2⟩ : S40)])) else (none)) else (none)) else (if x122001_2.length < 3518437208883 then (eyewitnessref09_Of.l1 k2 l0 x5_1 (wrap64 (x6_2 + 1)) x122000_2 (x122001_2 ++ [(⟨x5_1, x6_2, (rd_T45 (rd_L4 l0 x5_1) x6_2).f0, t126, (rd_T45 (rd_L4 l0 x5_1) x6_2).f2⟩ : S40)])) else (none))) = some (r1, r2, r3, r4) := H
           have A12 := Aside0.mk A120
           clear A120
           by_cases c13 : t126 < 0
           ·rw [if_pos c13] at H
            have c13b0 : decide (t126 < 0) = true := decide_eq_true c13
            clear c13
            by_cases c14 : x122000_2.length < 8796093022208
            ·rw [if_pos c14] at H
             have LMc14 := Aside0.mk c14
             clear c14
             obtain ⟨y127, hy127⟩ : ∃ y_ : List ByteArray, y_ = (x122000_2 ++ [(rd_T45 (rd_L4 l0 x5_1) x6_2).f1]) := ⟨_, rfl⟩
             replace H : (if x122001_2.length < 3518437208883 then (eyewitnessref09_Of.l1 k2 l0 x5_1 (wrap64 (x6_2 + 1)) y127 (x122001_2 ++ [(⟨x5_1, x6_2, (rd_T45 (rd_L4 l0 x5_1) x6_2).f0, (x122000_2.length : Int), (rd_T45 (rd_L4 l0 x5_1) x6_2).f2⟩ : S40)])) else (none)) = some (r1, r2, r3, r4) := by first | (rw [hy127]; with_reducible exact H) | (have H2_ := (Option.bind_some _ _).symm.trans H; rw [hy127]; with_reducible exact H2_) | (have H2_ := (Option.bind_some _ _).symm.trans H; with_reducible exact H2_) | with_reducible exact H | (rw [hy127]; exact H) | exact H
             have Ny127 := Aside0.mk hy127
             clear hy127
             by_cases c15 : x122001_2.length < 3518437208883
             ·rw [if_pos c15] at H
              have LMc15 := Aside0.mk c15
              clear c15
              obtain ⟨y130, hy130⟩ : ∃ y_ : List (S40), y_ = (x122001_2 ++ [(⟨x5_1, x6_2, (rd_T45 (rd_L4 l0 x5_1) x6_2).f0, (x122000_2.length : Int), (rd_T45 (rd_L4 l0 x5_1) x6_2).f2⟩ : S40)]) := ⟨_, rfl⟩
              replace H : (eyewitnessref09_Of.l1 k2 l0 x5_1 (wrap64 (x6_2 + 1)) y127 y130) = some (r1, r2, r3, r4) := by first | (rw [hy130]; with_reducible exact H) | (have H2_ := (Option.bind_some _ _).symm.trans H; rw [hy130]; with_reducible exact H2_) | (have H2_ := (Option.bind_some _ _).symm.trans H; with_reducible exact H2_) | with_reducible exact H | (rw [hy130]; exact H) | exact H
              have Ny130 := Aside0.mk hy130
              clear hy130
              have H' := Aside0.mk H
              clear H
              have p122 : 0 ≤ (x5_1 : Int) := of_decide_eq_true aS
              have q122 : x5_1 < (l0.length : Int) := of_decide_eq_true aS
              obtain ⟨ad122, A122_0, c122_0, e122, hx122_0, hl122_0, hi122_0⟩ := at_L4 HR0.out x5_1 p122 q122
              cases e122
              replace hx122_0 := pw_cell_below HB.out hx122_0
              have HR122_0 := Aside0.mk hi122_0
              have HC122_0 := Aside0.mk hl122_0
              clear hi122_0 hl122_0
              replace p122 := eq_true p122
              replace q122 := eq_true q122
              have p123 : 0 ≤ (x5_1 : Int) := of_decide_eq_true aS
              have q123 : x5_1 < (l0.length : Int) := of_decide_eq_true aS
              obtain ⟨ad123, A123_0, c123_0, e123, hx123_0, hl123_0, hi123_0⟩ := at_L4 HR0.out x5_1 p123 q123
              obtain rfl : ad122 = ad123 := (by injection e123)
              replace hx123_0 := pw_cell_below HB.out hx123_0
              have HR123_0 := Aside0.mk hi123_0
              have HC123_0 := Aside0.mk hl123_0
              clear hi123_0 hl123_0
              replace p123 := eq_true p123
              replace q123 := eq_true q123
              have ea_ := Option.some.inj (hx122_0.symm.trans hx123_0)
              injection ea_ with ea_ en_ ec_
              subst ea_
              subst ec_
              clear en_
              have p124 : 0 ≤ (x6_2 : Int) := of_decide_eq_true aS
              have q124 : x6_2 < ((rd_L4 l0 x5_1).length : Int) := of_decide_eq_true aS
              obtain ⟨ad124, e124, hx124_0, hx124_1, hx124_2⟩ := at_T45 HR123_0.out x6_2 p124 q124
              cases e124
              replace hx124_0 := pw_cell_below HB.out hx124_0
              replace hx124_1 := pw_cell_below HB.out hx124_1
              replace hx124_2 := pw_cell_below HB.out hx124_2
              replace p124 := eq_true p124
              replace q124 := eq_true q124
              go_wp2_with (first | ((with_reducible refine gate_dst (N := 7) rfl ?_); refine box_event ?hg (N := 7) ?hd (cs := #[.bool false, .string (⟨#[]⟩ : ByteArray), .int .i64 0]) (t := 45) ?hr ?_; (case hd => rfl); (case hg => rfl); (case hr => first | (go_simp; done) | (go_simp; rfl)); intro gb125 hg w16 hbox hb; have n0_ := Aside0.mk (Kd.R_below (tRr HO_122000) hb); have n1_ := Aside0.mk (Kd.R_below (tRr HO_122001) hb); have n2_ := Aside0.mk (blk_below (g := gb119) tB hb); have n3_ := Aside0.mk (blk_below (g := gb121) tB hb); have n4_ := Aside0.mk (below_step tH hb); have n5_ := Aside0.mk (hbox); have n6_ := Aside0.mk ((by rw [hg]; exact (below_size tH) : w.heap.size ≤ gb125)); have n7_ := Aside0.mk ((by rw [hg]; exact (below_size tH) : w.heap.size ≤ gb125)); have n8_ := Aside0.mk ((by rw [hg]; exact Nat.ne_of_lt (blk_lt (g := gb119) tB) : gb119 ≠ gb125)); have n9_ := Aside0.mk ((by rw [hg]; exact Nat.ne_of_gt (blk_lt (g := gb119) tB) : gb125 ≠ gb119)); have n10_ := Aside0.mk ((by rw [hg]; exact Nat.ne_of_lt (blk_lt (g := gb121) tB) : gb121 ≠ gb125)); have n11_ := Aside0.mk ((by rw [hg]; exact Nat.ne_of_gt (blk_lt (g := gb121) tB) : gb125 ≠ gb121)); clear HO_122000; clear HO_122001; clear BK119; clear BK121; clear HB; have HO_122000 := n0_; have HO_122001 := n1_; have BK119 := n2_; have BK121 := n3_; have HB := n4_; have BK125 := n5_; have GW125 := n6_; have GE125 := n7_; have NB119_125 := n8_; have NB125_119 := n9_; have NB121_125 := n10_; have NB125_121 := n11_; clear n0_ n1_ n2_ n3_ n4_ n5_ n6_ n7_ n8_ n9_ n10_ n11_; clear hb hbox hg; have hnb17 := NB125_119.out; have hnc17 := NB119_125.out; have hnb18 := NB125_121.out; have hnc18 := NB121_125.out; have hcz19_0 : w16.cell? ⟨gb125, 0, none⟩ = some (.bool false) := (blk_cell BK125.out 0).trans rfl; have hcz19_1 : w16.cell? ⟨gb125, 1, none⟩ = some (.string (⟨#[]⟩ : ByteArray)) := (blk_cell BK125.out 1).trans rfl; have hcz19_2 : w16.cell? ⟨gb125, 2, none⟩ = some (.int .i64 0) := (blk_cell BK125.out 2).trans rfl; have hfz19_0 := blk_frozen BK125.out 0; have hfz19_1 := blk_frozen BK125.out 1; have hfz19_2 := blk_frozen BK125.out 2; have hnb20 := NB121_119.out; have hnc20 := NB119_121.out; have hcz21_0 : w16.cell? ⟨gb121, 0, none⟩ = some (u122000) := (blk_cell BK121.out 0).trans rfl; have hcz21_1 : w16.cell? ⟨gb121, 1, none⟩ = some (u122001) := (blk_cell BK121.out 1).trans rfl; have hcz21_2 : w16.cell? ⟨gb121, 2, none⟩ = some (.slice none 0 0) := (blk_cell BK121.out 2).trans rfl; have hfz21_0 := blk_frozen BK121.out 0; have hfz21_1 := blk_frozen BK121.out 1; have hfz21_2 := blk_frozen BK121.out 2; obtain ⟨Ao22, co22, eo22⟩ := Kd.R_slice HO_122000.out; subst eo22) | ((with_reducible refine gate_callee (f := 23) rfl ?_); refine goesL_ (some 39) rfl rfl Try.func23 (by kernel_rfl) rfl #[.slice Ao22 x122000_2.length co22, .string ((rd_T45 (rd_L4 l0 x5_1) x6_2).f1)] rfl (by (try simp only [List.map_toArray, List.map_cons, List.map_nil]); first | done | rfl | (simp only [List.length_drop, List.length_take]; rfl)) ?_; (with_reducible refine (eyewitnessref09_find.calls k2 _ _ x122000_2 ((rd_T45 (rd_L4 l0 x5_1) x6_2).f1) t126 _ ?side1 ?side2 A12.out).mono ?_); (case side1 => refine (Kd.R_reads' (e := 9) (base := w.heap.size) (ok := fun k_ => True) (n := x122000_2.length) (c := co22) ?_).2.2; exact (by (with_reducible repeat (first | apply Kd.R_alloc | apply Kd.R_drewN | apply Kd.R_drew)); exact (Kd.R_mono (Kd.R_far (p := ⟨gb125, 2, none⟩) (Kd.R_far (p := ⟨gb125, 1, none⟩) (Kd.R_far (p := ⟨gb125, 0, none⟩) (Kd.R_types HO_122000.out BK125.out (by decide)) (fun _ hk => hk.2) (.bool ((rd_T45 (rd_L4 l0 x5_1) x6_2).f0))) (fun _ hk => hk.2) (.string ((rd_T45 (rd_L4 l0 x5_1) x6_2).f1))) (fun _ hk => hk.2) (.int .i64 ((rd_T45 (rd_L4 l0 x5_1) x6_2).f2))) (fun _ h_ => h_.1)))); (case side2 => exact (Kd.R_reads' HO_122000.out).2.1); rintro e w' ⟨rfl, ⟨nd, rfl⟩⟩; refine ⟨_, rfl, ?_⟩) | ((with_reducible refine gate_builtin (b := .append) (xs := #[.tmp 46, .tmp 49]) rfl ?_); at_builtin; refine Kd.R_append Kd.string (w0 := w) w.heap.size rfl (.tmp 46) (.tmp 49) 28 9 (.string ⟨#[]⟩) 16 rfl Try.underlying28 info9 rfl (by decide) (by omega) (.slice Ao22 x122000_2.length co22) x122000_2 ((rd_T45 (rd_L4 l0 x5_1) x6_2).f1) [.string ((rd_T45 (rd_L4 l0 x5_1) x6_2).f1)] (fun _ => True) (fun _ => False) rfl (by first | (go_simp; done) | (go_simp; rfl)) ?aP (fun _ hk => hk.elim) ?aF ?aO ?aB ?aS ?aL ?_; (case aP => exact rfl); (case aB => exact tH); (case aF => exact (fun _ _ => trivial)); (case aO => exact (by (with_reducible repeat (first | apply Kd.R_alloc | apply Kd.R_drewN | apply Kd.R_drew)); exact Kd.R_mono (Kd.R_far (p := ⟨gb125, 2, none⟩) (Kd.R_far (p := ⟨gb125, 1, none⟩) (Kd.R_far (p := ⟨gb125, 0, none⟩) (Kd.R_types HO_122000.out BK125.out (by decide)) (fun _ hk => hk.2) (.bool ((rd_T45 (rd_L4 l0 x5_1) x6_2).f0))) (fun _ hk => hk.2) (.string ((rd_T45 (rd_L4 l0 x5_1) x6_2).f1))) (fun _ hk => hk.2) (.int .i64 ((rd_T45 (rd_L4 l0 x5_1) x6_2).f2))) (fun _ hk => trivial))); (case aS => exact (below_size tH)); (case aL => have := LMc14.out; omega); intro v128 w23 ho hb hg hat; rw [← Ny127.out] at ho; have n0_ := Aside0.mk (Kd.R_over' (by (with_reducible repeat (first | apply Kd.R_alloc | apply Kd.R_drewN | apply Kd.R_drew)); exact (Kd.R_mono (Kd.R_far (p := ⟨gb125, 2, none⟩) (Kd.R_far (p := ⟨gb125, 1, none⟩) (Kd.R_far (p := ⟨gb125, 0, none⟩) (Kd.R_types HO_122001.out BK125.out (by decide)) (fun _ hk => hk.2) (.bool ((rd_T45 (rd_L4 l0 x5_1) x6_2).f0))) (fun _ hk => hk.2) (.string ((rd_T45 (rd_L4 l0 x5_1) x6_2).f1))) (fun _ hk => hk.2) (.int .i64 ((rd_T45 (rd_L4 l0 x5_1) x6_2).f2))) (fun _ h_ => h_.1))) (Kd.R_typed (by (with_reducible repeat (first | apply Kd.R_alloc | apply Kd.R_drewN | apply Kd.R_drew)); exact (Kd.R_mono (Kd.R_far (p := ⟨gb125, 2, none⟩) (Kd.R_far (p := ⟨gb125, 1, none⟩) (Kd.R_far (p := ⟨gb125, 0, none⟩) (Kd.R_types HO_122000.out BK125.out (by decide)) (fun _ hk => hk.2) (.bool ((rd_T45 (rd_L4 l0 x5_1) x6_2).f0))) (fun _ hk => hk.2) (.string ((rd_T45 (rd_L4 l0 x5_1) x6_2).f1))) (fun _ hk => hk.2) (.int .i64 ((rd_T45 (rd_L4 l0 x5_1) x6_2).f2))) (fun _ h_ => h_.1)))) (by decide) hg); have n1_ := Aside0.mk (blk_grown (g := gb119) (o := .cells #[.slice none 0 0, .slice none 0 0, .slice none 0 0] 31 (0, 0)) (by (with_reducible repeat (first | refine blk_drewN ?_ _ | refine blk_drew ?_ | refine blk_alloc ?_ _)); refine blk_far ?_ NB119_125.out _; (with_reducible repeat (first | refine blk_drewN ?_ _ | refine blk_drew ?_ | refine blk_alloc ?_ _)); refine blk_far ?_ NB119_125.out _; (with_reducible repeat (first | refine blk_drewN ?_ _ | refine blk_drew ?_ | refine blk_alloc ?_ _)); refine blk_far ?_ NB119_125.out _; (with_reducible repeat (first | refine blk_drewN ?_ _ | refine blk_drew ?_ | refine blk_alloc ?_ _)); exact BK119.out) hg (Kd.R_ne HO_122000.out BK119.out (by decide))); have n2_ := Aside0.mk (blk_grown (g := gb121) (o := .cells #[.slice Ao22 x122000_2.length co22, u122001, .slice none 0 0] 31 (0, 0)) (by (with_reducible repeat (first | refine blk_drewN ?_ _ | refine blk_drew ?_ | refine blk_alloc ?_ _)); refine blk_far ?_ NB121_125.out _; (with_reducible repeat (first | refine blk_drewN ?_ _ | refine blk_drew ?_ | refine blk_alloc ?_ _)); refine blk_far ?_ NB121_125.out _; (with_reducible repeat (first | refine blk_drewN ?_ _ | refine blk_drew ?_ | refine blk_alloc ?_ _)); refine blk_far ?_ NB121_125.out _; (with_reducible repeat (first | refine blk_drewN ?_ _ | refine blk_drew ?_ | refine blk_alloc ?_ _)); exact BK121.out) hg (Kd.R_ne HO_122000.out BK121.out (by decide))); have n3_ := Aside0.mk (blk_grown (g := gb125) (o := .cells #[.bool ((rd_T45 (rd_L4 l0 x5_1) x6_2).f0), .string ((rd_T45 (rd_L4 l0 x5_1) x6_2).f1), .int .i64 ((rd_T45 (rd_L4 l0 x5_1) x6_2).f2)] 45 (0, 0)) (by (with_reducible repeat (first | refine blk_drewN ?_ _ | refine blk_drew ?_ | refine blk_alloc ?_ _)); refine blk_put (cs := #[.bool ((rd_T45 (rd_L4 l0 x5_1) x6_2).f0), .string ((rd_T45 (rd_L4 l0 x5_1) x6_2).f1), .int .i64 0]) ?_ 2 _ rfl; (with_reducible repeat (first | refine blk_drewN ?_ _ | refine blk_drew ?_ | refine blk_alloc ?_ _)); refine blk_put (cs := #[.bool ((rd_T45 (rd_L4 l0 x5_1) x6_2).f0), .string (⟨#[]⟩ : ByteArray), .int .i64 0]) ?_ 1 _ rfl; (with_reducible repeat (first | refine blk_drewN ?_ _ | refine blk_drew ?_ | refine blk_alloc ?_ _)); refine blk_put (cs := #[.bool false, .string (⟨#[]⟩ : ByteArray), .int .i64 0]) ?_ 0 _ rfl; (with_reducible repeat (first | refine blk_drewN ?_ _ | refine blk_drew ?_ | refine blk_alloc ?_ _)); exact BK125.out) hg (Kd.R_ne HO_122000.out BK125.out (by decide))); have n4_ := Aside0.mk (hb); have n5_ := Aside0.mk (ho); clear HO_122001; clear BK119; clear BK121; clear BK125; clear HB; clear HO_122000; have HO_122001 := n0_; have BK119 := n1_; have BK121 := n2_; have BK125 := n3_; have HB := n4_; have HO129 := n5_; clear n0_ n1_ n2_ n3_ n4_ n5_; clear ho hb hg hat; obtain ⟨Ao24, co24, eo24⟩ := Kd.R_slice HO129.out; subst eo24; have hcz25_0 : w23.cell? ⟨gb121, 0, none⟩ = some (.slice Ao22 x122000_2.length co22) := (blk_cell BK121.out 0).trans rfl; have hcz25_1 : w23.cell? ⟨gb121, 1, none⟩ = some (u122001) := (blk_cell BK121.out 1).trans rfl; have hcz25_2 : w23.cell? ⟨gb121, 2, none⟩ = some (.slice none 0 0) := (blk_cell BK121.out 2).trans rfl; have hfz25_0 := blk_frozen BK121.out 0; have hfz25_1 := blk_frozen BK121.out 1; have hfz25_2 := blk_frozen BK121.out 2; have hcz26_0 : w23.cell? ⟨gb125, 0, none⟩ = some (.bool ((rd_T45 (rd_L4 l0 x5_1) x6_2).f0)) := (blk_cell BK125.out 0).trans rfl; have hcz26_1 : w23.cell? ⟨gb125, 1, none⟩ = some (.string ((rd_T45 (rd_L4 l0 x5_1) x6_2).f1)) := (blk_cell BK125.out 1).trans rfl; have hcz26_2 : w23.cell? ⟨gb125, 2, none⟩ = some (.int .i64 ((rd_T45 (rd_L4 l0 x5_1) x6_2).f2)) := (blk_cell BK125.out 2).trans rfl; have hfz26_0 := blk_frozen BK125.out 0; have hfz26_1 := blk_frozen BK125.out 1; have hfz26_2 := blk_frozen BK125.out 2) | ((with_reducible refine gate_builtin (b := .append) (xs := #[.tmp 53, .tmp 62]) rfl ?_); at_builtin; refine Kd.R_append k40 (w0 := w) w.heap.size rfl (.tmp 53) (.tmp 62) 29 40 (.agg #[(.int .i64 0), (.int .i64 0), (.bool false), (.int .i64 0), (.int .i64 0)]) 40 rfl Try.underlying29 info40 rfl (by decide) (by omega) u122001 x122001_2 (⟨x5_1, x6_2, (rd_T45 (rd_L4 l0 x5_1) x6_2).f0, (x122000_2.length : Int), (rd_T45 (rd_L4 l0 x5_1) x6_2).f2⟩ : S40) [.int .i64 x5_1, .int .i64 x6_2, .bool ((rd_T45 (rd_L4 l0 x5_1) x6_2).f0), .int .i64 (x122000_2.length : Int), .int .i64 ((rd_T45 (rd_L4 l0 x5_1) x6_2).f2)] (fun _ => True) (fun _ => False) rfl (by first | (go_simp; done) | (go_simp; rfl)) ?aP (fun _ hk => hk.elim) ?aF ?aO ?aB ?aS ?aL ?_; (case aP => exact k40_mkM _ _ _ (⟨x5_1, x6_2, (rd_T45 (rd_L4 l0 x5_1) x6_2).f0, (x122000_2.length : Int), (rd_T45 (rd_L4 l0 x5_1) x6_2).f2⟩ : S40)); (case aB => exact tH); (case aF => exact (fun _ _ => trivial)); (case aO => exact (by (with_reducible repeat (first | apply Kd.R_alloc | apply Kd.R_drewN | apply Kd.R_drew)); exact Kd.R_mono (Kd.R_far (p := ⟨gb121, 0, none⟩) (Kd.R_types HO_122001.out BK121.out (by decide)) (fun _ hk => hk.2) (.slice Ao24 y127.length co24)) (fun _ hk => trivial))); (case aS => exact (below_size tH)); (case aL => have := LMc15.out; omega); intro v131 w27 ho hb hg hat; rw [← Ny130.out] at ho; have n0_ := Aside0.mk (blk_grown (g := gb119) (o := .cells #[.slice none 0 0, .slice none 0 0, .slice none 0 0] 31 (0, 0)) (by (with_reducible repeat (first | refine blk_drewN ?_ _ | refine blk_drew ?_ | refine blk_alloc ?_ _)); refine blk_far ?_ NB119_121.out _; (with_reducible repeat (first | refine blk_drewN ?_ _ | refine blk_drew ?_ | refine blk_alloc ?_ _)); exact BK119.out) hg (Kd.R_ne HO_122001.out BK119.out (by decide))); have n1_ := Aside0.mk (blk_grown (g := gb121) (o := .cells #[.slice Ao24 y127.length co24, u122001, .slice none 0 0] 31 (0, 0)) (by (with_reducible repeat (first | refine blk_drewN ?_ _ | refine blk_drew ?_ | refine blk_alloc ?_ _)); refine blk_put (cs := #[.slice Ao22 x122000_2.length co22, u122001, .slice none 0 0]) ?_ 0 _ rfl; (with_reducible repeat (first | refine blk_drewN ?_ _ | refine blk_drew ?_ | refine blk_alloc ?_ _)); exact BK121.out) hg (Kd.R_ne HO_122001.out BK121.out (by decide))); have n2_ := Aside0.mk (blk_grown (g := gb125) (o := .cells #[.bool ((rd_T45 (rd_L4 l0 x5_1) x6_2).f0), .string ((rd_T45 (rd_L4 l0 x5_1) x6_2).f1), .int .i64 ((rd_T45 (rd_L4 l0 x5_1) x6_2).f2)] 45 (0, 0)) (by (with_reducible repeat (first | refine blk_drewN ?_ _ | refine blk_drew ?_ | refine blk_alloc ?_ _)); refine blk_far ?_ NB125_121.out _; (with_reducible repeat (first | refine blk_drewN ?_ _ | refine blk_drew ?_ | refine blk_alloc ?_ _)); exact BK125.out) hg (Kd.R_ne HO_122001.out BK125.out (by decide))); have n3_ := Aside0.mk (Kd.R_over' (by (with_reducible repeat (first | apply Kd.R_alloc | apply Kd.R_drewN | apply Kd.R_drew)); exact (Kd.R_mono (Kd.R_far (p := ⟨gb121, 0, none⟩) (Kd.R_types HO129.out BK121.out (by decide)) (fun _ hk => hk.2) (.slice Ao24 y127.length co24)) (fun _ h_ => h_.1))) (Kd.R_typed (by (with_reducible repeat (first | apply Kd.R_alloc | apply Kd.R_drewN | apply Kd.R_drew)); exact (Kd.R_mono (Kd.R_far (p := ⟨gb121, 0, none⟩) (Kd.R_types HO_122001.out BK121.out (by decide)) (fun _ hk => hk.2) (.slice Ao24 y127.length co24)) (fun _ h_ => h_.1)))) (by decide) hg); have n4_ := Aside0.mk (hb); have n5_ := Aside0.mk (ho); clear BK119; clear BK121; clear BK125; clear HO129; clear HB; clear HO_122001; have BK119 := n0_; have BK121 := n1_; have BK125 := n2_; have HO129 := n3_; have HB := n4_; have HO132 := n5_; clear n0_ n1_ n2_ n3_ n4_ n5_; clear ho hb hg hat; obtain ⟨Ao28, co28, eo28⟩ := Kd.R_slice HO132.out; subst eo28; have hcz29_0 : w27.cell? ⟨gb121, 0, none⟩ = some (.slice Ao24 y127.length co24) := (blk_cell BK121.out 0).trans rfl; have hcz29_1 : w27.cell? ⟨gb121, 1, none⟩ = some (u122001) := (blk_cell BK121.out 1).trans rfl; have hcz29_2 : w27.cell? ⟨gb121, 2, none⟩ = some (.slice none 0 0) := (blk_cell BK121.out 2).trans rfl; have hfz29_0 := blk_frozen BK121.out 0; have hfz29_1 := blk_frozen BK121.out 1; have hfz29_2 := blk_frozen BK121.out 2))
              go_roundg k2
              case measure => have := HK1.out; have := HK2.out; omega
              case rel => exact ⟨(wrap64 (x6_2 + 1)), (y127), (y130), (.slice Ao24 y127.length co24), (.slice Ao28 y130.length co28), (by first | rfl | (simp; done) | (simp [*]; done)), H', ⟨by have := HK1.out; have := HK2.out; omega⟩, ⟨by (with_reducible repeat (first | apply Kd.R_alloc | apply Kd.R_drewN | apply Kd.R_drew)); exact Kd.R_mono (Kd.R_far (p := ⟨gb121, 1, none⟩) (Kd.R_types HO129.out BK121.out (by decide)) (fun _ hk => hk.2) (.slice Ao28 y130.length co28)) (fun _ hk => trivial)⟩, ⟨by (with_reducible repeat (first | apply Kd.R_alloc | apply Kd.R_drewN | apply Kd.R_drew)); exact Kd.R_mono (Kd.R_far (p := ⟨gb121, 1, none⟩) (Kd.R_types HO132.out BK121.out (by decide)) (fun _ hk => hk.2) (.slice Ao28 y130.length co28)) (fun _ hk => trivial)⟩, ⟨by (with_reducible repeat (first | refine blk_drewN ?_ _ | refine blk_drew ?_ | refine blk_alloc ?_ _)); refine blk_far ?_ NB119_121.out _; (with_reducible repeat (first | refine blk_drewN ?_ _ | refine blk_drew ?_ | refine blk_alloc ?_ _)); exact BK119.out⟩, ⟨by (with_reducible repeat (first | refine blk_drewN ?_ _ | refine blk_drew ?_ | refine blk_alloc ?_ _)); refine blk_put (cs := #[.slice Ao24 y127.length co24, u122001, .slice none 0 0]) ?_ 1 _ rfl; (with_reducible repeat (first | refine blk_drewN ?_ _ | refine blk_drew ?_ | refine blk_alloc ?_ _)); exact BK121.out⟩, ⟨tH⟩⟩
             ·rw [if_neg c15] at H
              exact absurd H (by simp)
            ·rw [if_neg c14] at H
             exact absurd H (by simp)
           ·rw [if_neg c13] at H
            have c13b0 : decide (t126 < 0) = false := decide_eq_false c13
            clear c13
            by_cases c30 : x122001_2.length < 3518437208883
            ·rw [if_pos c30] at H
             have LMc30 := Aside0.mk c30
             clear c30
             obtain ⟨y133, hy133⟩ : ∃ y_ : List (S40), y_ = (x122001_2 ++ [(⟨x5_1, x6_2, (rd_T45 (rd_L4 l0 x5_1) x6_2).f0, t126, (rd_T45 (rd_L4 l0 x5_1) x6_2).f2⟩ : S40)]) := ⟨_, rfl⟩
             replace H : (eyewitnessref09_Of.l1 k2 l0 x5_1 (wrap64 (x6_2 + 1)) x122000_2 y133) = some (r1, r2, r3, r4) := by first | (rw [hy133]; with_reducible exact H) | (have H2_ := (Option.bind_some _ _).symm.trans H; rw [hy133]; with_reducible exact H2_) | (have H2_ := (Option.bind_some _ _).symm.trans H; with_reducible exact H2_) | with_reducible exact H | (rw [hy133]; exact H) | exact H
             have Ny133 := Aside0.mk hy133
             clear hy133
             have H' := Aside0.mk H
             clear H
             have p122 : 0 ≤ (x5_1 : Int) := of_decide_eq_true aS
             have q122 : x5_1 < (l0.length : Int) := of_decide_eq_true aS
             obtain ⟨ad122, A122_0, c122_0, e122, hx122_0, hl122_0, hi122_0⟩ := at_L4 HR0.out x5_1 p122 q122
             cases e122
             replace hx122_0 := pw_cell_below HB.out hx122_0
             have HR122_0 := Aside0.mk hi122_0
             have HC122_0 := Aside0.mk hl122_0
             clear hi122_0 hl122_0
             replace p122 := eq_true p122
             replace q122 := eq_true q122
             have p123 : 0 ≤ (x5_1 : Int) := of_decide_eq_true aS
             have q123 : x5_1 < (l0.length : Int) := of_decide_eq_true aS
             obtain ⟨ad123, A123_0, c123_0, e123, hx123_0, hl123_0, hi123_0⟩ := at_L4 HR0.out x5_1 p123 q123
             obtain rfl : ad122 = ad123 := (by injection e123)
             replace hx123_0 := pw_cell_below HB.out hx123_0
             have HR123_0 := Aside0.mk hi123_0
             have HC123_0 := Aside0.mk hl123_0
             clear hi123_0 hl123_0
             replace p123 := eq_true p123
             replace q123 := eq_true q123
             have ea_ := Option.some.inj (hx122_0.symm.trans hx123_0)
             injection ea_ with ea_ en_ ec_
             subst ea_
             subst ec_
             clear en_
             have p124 : 0 ≤ (x6_2 : Int) := of_decide_eq_true aS
             have q124 : x6_2 < ((rd_L4 l0 x5_1).length : Int) := of_decide_eq_true aS
             obtain ⟨ad124, e124, hx124_0, hx124_1, hx124_2⟩ := at_T45 HR123_0.out x6_2 p124 q124
             cases e124
             replace hx124_0 := pw_cell_below HB.out hx124_0
             replace hx124_1 := pw_cell_below HB.out hx124_1
             replace hx124_2 := pw_cell_below HB.out hx124_2
             replace p124 := eq_true p124
             replace q124 := eq_true q124
             go_wp2_with (first | ((with_reducible refine gate_dst (N := 7) rfl ?_); refine box_event ?hg (N := 7) ?hd (cs := #[.bool false, .string (⟨#[]⟩ : ByteArray), .int .i64 0]) (t := 45) ?hr ?_; (case hd => rfl); (case hg => rfl); (case hr => first | (go_simp; done) | (go_simp; rfl)); intro gb125 hg w31 hbox hb; have n0_ := Aside0.mk (Kd.R_below (tRr HO_122000) hb); have n1_ := Aside0.mk (Kd.R_below (tRr HO_122001) hb); have n2_ := Aside0.mk (blk_below (g := gb119) tB hb); have n3_ := Aside0.mk (blk_below (g := gb121) tB hb); have n4_ := Aside0.mk (below_step tH hb); have n5_ := Aside0.mk (hbox); have n6_ := Aside0.mk ((by rw [hg]; exact (below_size tH) : w.heap.size ≤ gb125)); have n7_ := Aside0.mk ((by rw [hg]; exact (below_size tH) : w.heap.size ≤ gb125)); have n8_ := Aside0.mk ((by rw [hg]; exact Nat.ne_of_lt (blk_lt (g := gb119) tB) : gb119 ≠ gb125)); have n9_ := Aside0.mk ((by rw [hg]; exact Nat.ne_of_gt (blk_lt (g := gb119) tB) : gb125 ≠ gb119)); have n10_ := Aside0.mk ((by rw [hg]; exact Nat.ne_of_lt (blk_lt (g := gb121) tB) : gb121 ≠ gb125)); have n11_ := Aside0.mk ((by rw [hg]; exact Nat.ne_of_gt (blk_lt (g := gb121) tB) : gb125 ≠ gb121)); clear HO_122000; clear HO_122001; clear BK119; clear BK121; clear HB; have HO_122000 := n0_; have HO_122001 := n1_; have BK119 := n2_; have BK121 := n3_; have HB := n4_; have BK125 := n5_; have GW125 := n6_; have GE125 := n7_; have NB119_125 := n8_; have NB125_119 := n9_; have NB121_125 := n10_; have NB125_121 := n11_; clear n0_ n1_ n2_ n3_ n4_ n5_ n6_ n7_ n8_ n9_ n10_ n11_; clear hb hbox hg; have hnb32 := NB125_119.out; have hnc32 := NB119_125.out; have hnb33 := NB125_121.out; have hnc33 := NB121_125.out; have hcz34_0 : w31.cell? ⟨gb125, 0, none⟩ = some (.bool false) := (blk_cell BK125.out 0).trans rfl; have hcz34_1 : w31.cell? ⟨gb125, 1, none⟩ = some (.string (⟨#[]⟩ : ByteArray)) := (blk_cell BK125.out 1).trans rfl; have hcz34_2 : w31.cell? ⟨gb125, 2, none⟩ = some (.int .i64 0) := (blk_cell BK125.out 2).trans rfl; have hfz34_0 := blk_frozen BK125.out 0; have hfz34_1 := blk_frozen BK125.out 1; have hfz34_2 := blk_frozen BK125.out 2; have hnb35 := NB121_119.out; have hnc35 := NB119_121.out; have hcz36_0 : w31.cell? ⟨gb121, 0, none⟩ = some (u122000) := (blk_cell BK121.out 0).trans rfl; have hcz36_1 : w31.cell? ⟨gb121, 1, none⟩ = some (u122001) := (blk_cell BK121.out 1).trans rfl; have hcz36_2 : w31.cell? ⟨gb121, 2, none⟩ = some (.slice none 0 0) := (blk_cell BK121.out 2).trans rfl; have hfz36_0 := blk_frozen BK121.out 0; have hfz36_1 := blk_frozen BK121.out 1; have hfz36_2 := blk_frozen BK121.out 2; obtain ⟨Ao37, co37, eo37⟩ := Kd.R_slice HO_122000.out; subst eo37) | ((with_reducible refine gate_callee (f := 23) rfl ?_); refine goesL_ (some 39) rfl rfl Try.func23 (by kernel_rfl) rfl #[.slice Ao37 x122000_2.length co37, .string ((rd_T45 (rd_L4 l0 x5_1) x6_2).f1)] rfl (by (try simp only [List.map_toArray, List.map_cons, List.map_nil]); first | done | rfl | (simp only [List.length_drop, List.length_take]; rfl)) ?_; (with_reducible refine (eyewitnessref09_find.calls k2 _ _ x122000_2 ((rd_T45 (rd_L4 l0 x5_1) x6_2).f1) t126 _ ?side1 ?side2 A12.out).mono ?_); (case side1 => refine (Kd.R_reads' (e := 9) (base := w.heap.size) (ok := fun k_ => True) (n := x122000_2.length) (c := co37) ?_).2.2; exact (by (with_reducible repeat (first | apply Kd.R_alloc | apply Kd.R_drewN | apply Kd.R_drew)); exact (Kd.R_mono (Kd.R_far (p := ⟨gb125, 2, none⟩) (Kd.R_far (p := ⟨gb125, 1, none⟩) (Kd.R_far (p := ⟨gb125, 0, none⟩) (Kd.R_types HO_122000.out BK125.out (by decide)) (fun _ hk => hk.2) (.bool ((rd_T45 (rd_L4 l0 x5_1) x6_2).f0))) (fun _ hk => hk.2) (.string ((rd_T45 (rd_L4 l0 x5_1) x6_2).f1))) (fun _ hk => hk.2) (.int .i64 ((rd_T45 (rd_L4 l0 x5_1) x6_2).f2))) (fun _ h_ => h_.1)))); (case side2 => exact (Kd.R_reads' HO_122000.out).2.1); rintro e w' ⟨rfl, ⟨nd, rfl⟩⟩; refine ⟨_, rfl, ?_⟩) | ((with_reducible refine gate_builtin (b := .append) (xs := #[.tmp 53, .tmp 62]) rfl ?_); at_builtin; refine Kd.R_append k40 (w0 := w) w.heap.size rfl (.tmp 53) (.tmp 62) 29 40 (.agg #[(.int .i64 0), (.int .i64 0), (.bool false), (.int .i64 0), (.int .i64 0)]) 40 rfl Try.underlying29 info40 rfl (by decide) (by omega) u122001 x122001_2 (⟨x5_1, x6_2, (rd_T45 (rd_L4 l0 x5_1) x6_2).f0, t126, (rd_T45 (rd_L4 l0 x5_1) x6_2).f2⟩ : S40) [.int .i64 x5_1, .int .i64 x6_2, .bool ((rd_T45 (rd_L4 l0 x5_1) x6_2).f0), .int .i64 t126, .int .i64 ((rd_T45 (rd_L4 l0 x5_1) x6_2).f2)] (fun _ => True) (fun _ => False) rfl (by first | (go_simp; done) | (go_simp; rfl)) ?aP (fun _ hk => hk.elim) ?aF ?aO ?aB ?aS ?aL ?_; (case aP => exact k40_mkM _ _ _ (⟨x5_1, x6_2, (rd_T45 (rd_L4 l0 x5_1) x6_2).f0, t126, (rd_T45 (rd_L4 l0 x5_1) x6_2).f2⟩ : S40)); (case aB => exact tH); (case aF => exact (fun _ _ => trivial)); (case aO => exact (by (with_reducible repeat (first | apply Kd.R_alloc | apply Kd.R_drewN | apply Kd.R_drew)); exact Kd.R_mono (Kd.R_far (p := ⟨gb125, 2, none⟩) (Kd.R_far (p := ⟨gb125, 1, none⟩) (Kd.R_far (p := ⟨gb125, 0, none⟩) (Kd.R_types HO_122001.out BK125.out (by decide)) (fun _ hk => hk.2) (.bool ((rd_T45 (rd_L4 l0 x5_1) x6_2).f0))) (fun _ hk => hk.2) (.string ((rd_T45 (rd_L4 l0 x5_1) x6_2).f1))) (fun _ hk => hk.2) (.int .i64 ((rd_T45 (rd_L4 l0 x5_1) x6_2).f2))) (fun _ hk => trivial))); (case aS => exact (below_size tH)); (case aL => have := LMc30.out; omega); intro v134 w38 ho hb hg hat; rw [← Ny133.out] at ho; have n0_ := Aside0.mk (Kd.R_over' (by (with_reducible repeat (first | apply Kd.R_alloc | apply Kd.R_drewN | apply Kd.R_drew)); exact (Kd.R_mono (Kd.R_far (p := ⟨gb125, 2, none⟩) (Kd.R_far (p := ⟨gb125, 1, none⟩) (Kd.R_far (p := ⟨gb125, 0, none⟩) (Kd.R_types HO_122000.out BK125.out (by decide)) (fun _ hk => hk.2) (.bool ((rd_T45 (rd_L4 l0 x5_1) x6_2).f0))) (fun _ hk => hk.2) (.string ((rd_T45 (rd_L4 l0 x5_1) x6_2).f1))) (fun _ hk => hk.2) (.int .i64 ((rd_T45 (rd_L4 l0 x5_1) x6_2).f2))) (fun _ h_ => h_.1))) (Kd.R_typed (by (with_reducible repeat (first | apply Kd.R_alloc | apply Kd.R_drewN | apply Kd.R_drew)); exact (Kd.R_mono (Kd.R_far (p := ⟨gb125, 2, none⟩) (Kd.R_far (p := ⟨gb125, 1, none⟩) (Kd.R_far (p := ⟨gb125, 0, none⟩) (Kd.R_types HO_122001.out BK125.out (by decide)) (fun _ hk => hk.2) (.bool ((rd_T45 (rd_L4 l0 x5_1) x6_2).f0))) (fun _ hk => hk.2) (.string ((rd_T45 (rd_L4 l0 x5_1) x6_2).f1))) (fun _ hk => hk.2) (.int .i64 ((rd_T45 (rd_L4 l0 x5_1) x6_2).f2))) (fun _ h_ => h_.1)))) (by decide) hg); have n1_ := Aside0.mk (blk_grown (g := gb119) (o := .cells #[.slice none 0 0, .slice none 0 0, .slice none 0 0] 31 (0, 0)) (by (with_reducible repeat (first | refine blk_drewN ?_ _ | refine blk_drew ?_ | refine blk_alloc ?_ _)); refine blk_far ?_ NB119_125.out _; (with_reducible repeat (first | refine blk_drewN ?_ _ | refine blk_drew ?_ | refine blk_alloc ?_ _)); refine blk_far ?_ NB119_125.out _; (with_reducible repeat (first | refine blk_drewN ?_ _ | refine blk_drew ?_ | refine blk_alloc ?_ _)); refine blk_far ?_ NB119_125.out _; (with_reducible repeat (first | refine blk_drewN ?_ _ | refine blk_drew ?_ | refine blk_alloc ?_ _)); exact BK119.out) hg (Kd.R_ne HO_122001.out BK119.out (by decide))); have n2_ := Aside0.mk (blk_grown (g := gb121) (o := .cells #[.slice Ao37 x122000_2.length co37, u122001, .slice none 0 0] 31 (0, 0)) (by (with_reducible repeat (first | refine blk_drewN ?_ _ | refine blk_drew ?_ | refine blk_alloc ?_ _)); refine blk_far ?_ NB121_125.out _; (with_reducible repeat (first | refine blk_drewN ?_ _ | refine blk_drew ?_ | refine blk_alloc ?_ _)); refine blk_far ?_ NB121_125.out _; (with_reducible repeat (first | refine blk_drewN ?_ _ | refine blk_drew ?_ | refine blk_alloc ?_ _)); refine blk_far ?_ NB121_125.out _; (with_reducible repeat (first | refine blk_drewN ?_ _ | refine blk_drew ?_ | refine blk_alloc ?_ _)); exact BK121.out) hg (Kd.R_ne HO_122001.out BK121.out (by decide))); have n3_ := Aside0.mk (blk_grown (g := gb125) (o := .cells #[.bool ((rd_T45 (rd_L4 l0 x5_1) x6_2).f0), .string ((rd_T45 (rd_L4 l0 x5_1) x6_2).f1), .int .i64 ((rd_T45 (rd_L4 l0 x5_1) x6_2).f2)] 45 (0, 0)) (by (with_reducible repeat (first | refine blk_drewN ?_ _ | refine blk_drew ?_ | refine blk_alloc ?_ _)); refine blk_put (cs := #[.bool ((rd_T45 (rd_L4 l0 x5_1) x6_2).f0), .string ((rd_T45 (rd_L4 l0 x5_1) x6_2).f1), .int .i64 0]) ?_ 2 _ rfl; (with_reducible repeat (first | refine blk_drewN ?_ _ | refine blk_drew ?_ | refine blk_alloc ?_ _)); refine blk_put (cs := #[.bool ((rd_T45 (rd_L4 l0 x5_1) x6_2).f0), .string (⟨#[]⟩ : ByteArray), .int .i64 0]) ?_ 1 _ rfl; (with_reducible repeat (first | refine blk_drewN ?_ _ | refine blk_drew ?_ | refine blk_alloc ?_ _)); refine blk_put (cs := #[.bool false, .string (⟨#[]⟩ : ByteArray), .int .i64 0]) ?_ 0 _ rfl; (with_reducible repeat (first | refine blk_drewN ?_ _ | refine blk_drew ?_ | refine blk_alloc ?_ _)); exact BK125.out) hg (Kd.R_ne HO_122001.out BK125.out (by decide))); have n4_ := Aside0.mk (hb); have n5_ := Aside0.mk (ho); clear HO_122000; clear BK119; clear BK121; clear BK125; clear HB; clear HO_122001; have HO_122000 := n0_; have BK119 := n1_; have BK121 := n2_; have BK125 := n3_; have HB := n4_; have HO135 := n5_; clear n0_ n1_ n2_ n3_ n4_ n5_; clear ho hb hg hat; obtain ⟨Ao39, co39, eo39⟩ := Kd.R_slice HO135.out; subst eo39; have hcz40_0 : w38.cell? ⟨gb121, 0, none⟩ = some (.slice Ao37 x122000_2.length co37) := (blk_cell BK121.out 0).trans rfl; have hcz40_1 : w38.cell? ⟨gb121, 1, none⟩ = some (u122001) := (blk_cell BK121.out 1).trans rfl; have hcz40_2 : w38.cell? ⟨gb121, 2, none⟩ = some (.slice none 0 0) := (blk_cell BK121.out 2).trans rfl; have hfz40_0 := blk_frozen BK121.out 0; have hfz40_1 := blk_frozen BK121.out 1; have hfz40_2 := blk_frozen BK121.out 2))
             go_roundg k2
             case measure => have := HK1.out; have := HK2.out; omega
             case rel => exact ⟨(wrap64 (x6_2 + 1)), (x122000_2), (y133), (.slice Ao37 x122000_2.length co37), (.slice Ao39 y133.length co39), (by first | rfl | (simp; done) | (simp [*]; done)), H', ⟨by have := HK1.out; have := HK2.out; omega⟩, ⟨by (with_reducible repeat (first | apply Kd.R_alloc | apply Kd.R_drewN | apply Kd.R_drew)); exact Kd.R_mono (Kd.R_far (p := ⟨gb121, 1, none⟩) (Kd.R_types HO_122000.out BK121.out (by decide)) (fun _ hk => hk.2) (.slice Ao39 y133.length co39)) (fun _ hk => trivial)⟩, ⟨by (with_reducible repeat (first | apply Kd.R_alloc | apply Kd.R_drewN | apply Kd.R_drew)); exact Kd.R_mono (Kd.R_far (p := ⟨gb121, 1, none⟩) (Kd.R_types HO135.out BK121.out (by decide)) (fun _ hk => hk.2) (.slice Ao39 y133.length co39)) (fun _ hk => trivial)⟩, ⟨by (with_reducible repeat (first | refine blk_drewN ?_ _ | refine blk_drew ?_ | refine blk_alloc ?_ _)); refine blk_far ?_ NB119_121.out _; (with_reducible repeat (first | refine blk_drewN ?_ _ | refine blk_drew ?_ | refine blk_alloc ?_ _)); exact BK119.out⟩, ⟨by (with_reducible repeat (first | refine blk_drewN ?_ _ | refine blk_drew ?_ | refine blk_alloc ?_ _)); refine blk_put (cs := #[.slice Ao37 x122000_2.length co37, u122001, .slice none 0 0]) ?_ 1 _ rfl; (with_reducible repeat (first | refine blk_drewN ?_ _ | refine blk_drew ?_ | refine blk_alloc ?_ _)); exact BK121.out⟩, ⟨tH⟩⟩
            ·rw [if_neg c30] at H
             exact absurd H (by simp)
          ·rw [if_neg c11] at H
           exact absurd H (by simp)
         ·rw [if_neg c10] at H
          have c10b0 : decide (x6_2 < ((rd_L4 l0 x5_1).length : Int)) = false := decide_eq_false c10
          clear c10
          have H' := Aside0.mk H
          clear H
          have p122 : 0 ≤ (x5_1 : Int) := of_decide_eq_true aS
          have q122 : x5_1 < (l0.length : Int) := of_decide_eq_true aS
          obtain ⟨ad122, A122_0, c122_0, e122, hx122_0, hl122_0, hi122_0⟩ := at_L4 HR0.out x5_1 p122 q122
          cases e122
          replace hx122_0 := pw_cell_below HB.out hx122_0
          have HR122_0 := Aside0.mk hi122_0
          have HC122_0 := Aside0.mk hl122_0
          clear hi122_0 hl122_0
          replace p122 := eq_true p122
          replace q122 := eq_true q122
          go_wp2
          go_roundg k2
          case measure => have := HK1.out; have := HK2.out; omega
          case rel => exact ⟨(wrap64 (x5_1 + 1)), (x122000_2), (x122001_2), (u122000), (u122001), (by first | rfl | (simp; done) | (simp [*]; done)), H', ⟨by have := HK1.out; have := HK2.out; omega⟩, ⟨by (with_reducible repeat (first | apply Kd.R_alloc | apply Kd.R_drewN | apply Kd.R_drew)); exact HO_122000.out⟩, ⟨by (with_reducible repeat (first | apply Kd.R_alloc | apply Kd.R_drewN | apply Kd.R_drew)); exact HO_122001.out⟩, ⟨by (with_reducible repeat (first | refine blk_drewN ?_ _ | refine blk_drew ?_ | refine blk_alloc ?_ _)); exact BK119.out⟩, ⟨by (with_reducible repeat (first | refine blk_drewN ?_ _ | refine blk_drew ?_ | refine blk_alloc ?_ _)); exact BK121.out⟩, ⟨tH⟩⟩
        ·rw [if_neg c9] at H
         exact absurd H (by simp)
       ·rw [if_neg c8] at H
        exact absurd H (by simp)
    ·rw [if_neg c7] at H
     have c7b0 : decide (x5_1 < (l0.length : Int)) = false := decide_eq_false c7
     clear c7
     simp only [Option.some.injEq, Prod.mk.injEq] at H
     obtain ⟨rfl, rfl, rfl, rfl⟩ := H
     have hnb41 := NB121_119.out
     have hnc41 := NB119_121.out
     have hcz42_0 : wr.cell? ⟨gb121, 0, none⟩ = some (u122000) := (blk_cell BK121.out 0).trans rfl
     have hcz42_1 : wr.cell? ⟨gb121, 1, none⟩ = some (u122001) := (blk_cell BK121.out 1).trans rfl
     have hcz42_2 : wr.cell? ⟨gb121, 2, none⟩ = some (.slice none 0 0) := (blk_cell BK121.out 2).trans rfl
     have hfz42_0 := blk_frozen BK121.out 0
     have hfz42_1 := blk_frozen BK121.out 1
     have hfz42_2 := blk_frozen BK121.out 2
     obtain ⟨Ao43, co43, eo43⟩ := Kd.R_slice HO_122000.out
     subst eo43
     have hcz44_0 : wr.cell? ⟨gb119, 0, none⟩ = some (.slice none 0 0) := (blk_cell BK119.out 0).trans rfl
     have hcz44_1 : wr.cell? ⟨gb119, 1, none⟩ = some (.slice none 0 0) := (blk_cell BK119.out 1).trans rfl
     have hcz44_2 : wr.cell? ⟨gb119, 2, none⟩ = some (.slice none 0 0) := (blk_cell BK119.out 2).trans rfl
     have hfz44_0 := blk_frozen BK119.out 0
     have hfz44_1 := blk_frozen BK119.out 1
     have hfz44_2 := blk_frozen BK119.out 2
     obtain ⟨Ao45, co45, eo45⟩ := Kd.R_slice HO_122001.out
     subst eo45
     go_wp2
     refine bodyPost_ret (results_ct rfl _ _ gb119 31 #[.slice Ao43 x122000_1.length co43, .slice Ao45 x122001_1.length co45, .slice none 0 0] (0, 0) _ rfl (by (with_reducible repeat (first | refine blk_drewN ?_ _ | refine blk_drew ?_ | refine blk_alloc ?_ _)); refine blk_put (cs := #[.slice Ao43 x122000_1.length co43, .slice Ao45 x122001_1.length co45, .slice none 0 0]) ?_ 2 _ rfl; (with_reducible repeat (first | refine blk_drewN ?_ _ | refine blk_drew ?_ | refine blk_alloc ?_ _)); refine blk_put (cs := #[.slice Ao43 x122000_1.length co43, .slice none 0 0, .slice none 0 0]) ?_ 1 _ rfl; (with_reducible repeat (first | refine blk_drewN ?_ _ | refine blk_drew ?_ | refine blk_alloc ?_ _)); refine blk_put (cs := #[.slice none 0 0, .slice none 0 0, .slice none 0 0]) ?_ 0 _ rfl; (with_reducible repeat (first | refine blk_drewN ?_ _ | refine blk_drew ?_ | refine blk_alloc ?_ _)); exact BK119.out) Try.underlying31 rfl (by kernel_rfl)) rfl ?_
     exact ⟨_, _, _, by first | rfl | (simp [errW_none, errW_some] <;> rfl) | (simp [*, errW_none, errW_some] <;> rfl), by (with_reducible repeat (first | apply Kd.R_alloc | apply Kd.R_drewN | apply Kd.R_drew)); exact Kd.R_mono (Kd.R_far (p := ⟨gb119, 2, none⟩) (Kd.R_far (p := ⟨gb119, 1, none⟩) (Kd.R_far (p := ⟨gb119, 0, none⟩) (Kd.R_types HO_122000.out BK119.out (by decide)) (fun _ hk => hk.2) (.slice Ao43 x122000_1.length co43)) (fun _ hk => hk.2) (.slice Ao45 x122001_1.length co45)) (fun _ hk => hk.2) (.slice none 0 0)) (fun _ hk => trivial), by (with_reducible repeat (first | apply Kd.R_alloc | apply Kd.R_drewN | apply Kd.R_drew)); exact Kd.R_mono (Kd.R_far (p := ⟨gb119, 2, none⟩) (Kd.R_far (p := ⟨gb119, 1, none⟩) (Kd.R_far (p := ⟨gb119, 0, none⟩) (Kd.R_types HO_122001.out BK119.out (by decide)) (fun _ hk => hk.2) (.slice Ao43 x122000_1.length co43)) (fun _ hk => hk.2) (.slice Ao45 x122001_1.length co45)) (fun _ hk => hk.2) (.slice none 0 0)) (fun _ hk => trivial), by first | exact Kd.R_nil _ _ _ _ _ | exact Kd.N_nil _ _ _ _ _ | exact Kd.V_nil _ _ _ _ _ | exact Kd.Q_nil _ _ _ _ _ | exact Kd.S_nil _ _ _ _ _, tH⟩
 ·replace c3 := Bool.eq_false_iff.mpr c3
  subst c3
  have H1 : (some (([] : List ByteArray), ([] : List (S40)), ([] : List Int), 1)) = some (r1, r2, r3, r4) := by rw [if_neg (show ¬ (false = true) by decide)] at H; exact H
  clear H
  have H := H1
  clear H1
  simp only [Option.some.injEq, Prod.mk.injEq] at H
  obtain ⟨rfl, rfl, rfl, rfl⟩ := H
  go_enter Try.func15, Try.ntmps15
  go_wp2_with (first | ((with_reducible refine gate_dst (N := 2) rfl ?_); refine box_event ?hg (N := 2) ?hd (cs := #[.slice none 0 0, .slice none 0 0, .slice none 0 0]) (t := 31) ?hr ?_; (case hd => rfl); (case hg => rfl); (case hr => first | (go_simp; done) | (go_simp; rfl)); intro gb119 hg w46 hbox hb; have n0_ := Aside0.mk (below_step tH hb); have n1_ := Aside0.mk (hbox); have n2_ := Aside0.mk ((by rw [hg]; exact (below_size tH) : w.heap.size ≤ gb119)); have n3_ := Aside0.mk ((by rw [hg]; exact (below_size tH) : w.heap.size ≤ gb119)); clear HB; have HB := n0_; have BK119 := n1_; have GW119 := n2_; have GE119 := n3_; clear n0_ n1_ n2_ n3_; clear hb hbox hg) | ((with_reducible refine gate_callee (f := 22) rfl ?_); refine goesL_ (some 10) rfl rfl Try.func22 (by kernel_rfl) rfl #[.slice A0 l0.length c0] rfl (by (try simp only [List.map_toArray, List.map_cons, List.map_nil]); first | done | rfl | (simp only [List.length_drop, List.length_take]; rfl)) ?_; (with_reducible refine (eyewitnessref06_Right.calls k _ _ l0 false _ ?side1 ?side2 A2.out).mono ?_); (case side1 => exact tC HR0); (case side2 => exact HC0.out); rintro e w47 ⟨rfl, hb⟩; refine ⟨_, rfl, ?_⟩; have n0_ := Aside0.mk (blk_below (g := gb119) tB hb); have n1_ := Aside0.mk (below_step tH hb); clear BK119; clear HB; have BK119 := n0_; have HB := n1_; clear n0_ n1_; (try clear hb); (try clear hb2); (try clear hk); (try clear hi); have hcz48_0 : w47.cell? ⟨gb119, 0, none⟩ = some (.slice none 0 0) := (blk_cell BK119.out 0).trans rfl; have hcz48_1 : w47.cell? ⟨gb119, 1, none⟩ = some (.slice none 0 0) := (blk_cell BK119.out 1).trans rfl; have hcz48_2 : w47.cell? ⟨gb119, 2, none⟩ = some (.slice none 0 0) := (blk_cell BK119.out 2).trans rfl; have hfz48_0 := blk_frozen BK119.out 0; have hfz48_1 := blk_frozen BK119.out 1; have hfz48_2 := blk_frozen BK119.out 2))
  refine bodyPost_ret (results_ct rfl _ _ gb119 31 #[.slice none 0 0, .slice none 0 0, .slice none 0 0] (0, 0) _ rfl (by (with_reducible repeat (first | refine blk_drewN ?_ _ | refine blk_drew ?_ | refine blk_alloc ?_ _)); refine blk_put (cs := #[.slice none 0 0, .slice none 0 0, .slice none 0 0]) ?_ 2 _ rfl; (with_reducible repeat (first | refine blk_drewN ?_ _ | refine blk_drew ?_ | refine blk_alloc ?_ _)); refine blk_put (cs := #[.slice none 0 0, .slice none 0 0, .slice none 0 0]) ?_ 1 _ rfl; (with_reducible repeat (first | refine blk_drewN ?_ _ | refine blk_drew ?_ | refine blk_alloc ?_ _)); refine blk_put (cs := #[.slice none 0 0, .slice none 0 0, .slice none 0 0]) ?_ 0 _ rfl; (with_reducible repeat (first | refine blk_drewN ?_ _ | refine blk_drew ?_ | refine blk_alloc ?_ _)); exact BK119.out) Try.underlying31 rfl (by kernel_rfl)) rfl ?_
  exact ⟨_, _, _, by first | rfl | (simp [errW_none, errW_some] <;> rfl) | (simp [*, errW_none, errW_some] <;> rfl), by first | exact Kd.R_nil _ _ _ _ _ | exact Kd.N_nil _ _ _ _ _ | exact Kd.V_nil _ _ _ _ _ | exact Kd.Q_nil _ _ _ _ _ | exact Kd.S_nil _ _ _ _ _, by first | exact Kd.R_nil _ _ _ _ _ | exact Kd.N_nil _ _ _ _ _ | exact Kd.V_nil _ _ _ _ _ | exact Kd.Q_nil _ _ _ _ _ | exact Kd.S_nil _ _ _ _ _, by first | exact Kd.R_nil _ _ _ _ _ | exact Kd.N_nil _ _ _ _ _ | exact Kd.V_nil _ _ _ _ _ | exact Kd.Q_nil _ _ _ _ _ | exact Kd.S_nil _ _ _ _ _, tH⟩

end Go.Proofs.Ytcnjnollmamifaa.P
