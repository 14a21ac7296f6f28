-- written by a program (wip/tools/pr.py: the kit's print over this seat)
import Derived.Test.YtcnjnollmamifaaPKinds
import Derived.Test.YtcnjnollmamifaaPRef06Flat
import Derived.Test.YtcnjnollmamifaaPRef06Count
namespace Go.Proofs.Ytcnjnollmamifaa.P
open Go.RowKit Go.Proofs.YtcnjnollmamifaaW.PrintWords Go.Proofs.YtcnjnollmamifaaW.PrintLast Go.Proofs.YtcnjnollmamifaaW.PrintMore
attribute [local go_sem] max2_int min2_int max_two min_two max_three min_three max_four min_four   -- for this text's walks alone
set_option linter.unusedVariables false
set_option linter.unusedSimpArgs false

/-! ### eyewitnessref06_Small: function 6 -/
mutual
def eyewitnessref06_Small.j0 : Nat → List (List (S45)) → Bool → Option (Bool)
 | 0, _, _ => none
 | k + 1, x0, x16 => if x16 = true then (some false) else ((eyewitnessref06_Flat.f k x0).bind fun t109 => (eyewitnessref06_Small.l0 k t109 0))
def eyewitnessref06_Small.l0 : Nat → List (S45) → Int → Option (Bool)
 | 0, _, _ => none
 | k + 1, x5, x6 => if x6 < (x5.length : Int) then (if 0 ≤ x6 then (if (((rd_T45 x5 x6).f1).size : Int) > 20 then (some false) else (eyewitnessref06_Small.l0 k x5 (wrap64 (x6 + 1)))) else (none)) else (some true)
end
def eyewitnessref06_Small.f (k : Nat) (l0 : List (List (S45))) (a1 : Int) : Option (Bool) := if (l0.length : Int) > a1 then (eyewitnessref06_Small.j0 k l0 true) else ((eyewitnessref06_Count.f k l0).bind fun t108 => (eyewitnessref06_Small.j0 k l0 (decide (t108 > a1))))
theorem eyewitnessref06_Small.mono_l : ∀ k, (∀ y0 y1, LeO (eyewitnessref06_Small.j0 k y0 y1) (eyewitnessref06_Small.j0 (k + 1) y0 y1)) ∧ (∀ y0 y1, LeO (eyewitnessref06_Small.l0 k y0 y1) (eyewitnessref06_Small.l0 (k + 1) y0 y1))
 | 0 => ⟨fun _ _ r h => by simp [eyewitnessref06_Small.j0] at h, fun _ _ r h => by simp [eyewitnessref06_Small.l0] at h⟩
 | k + 1 => by
  obtain ⟨ih0, ih1⟩ := eyewitnessref06_Small.mono_l k
  refine ⟨?_, ?_⟩
  ·intro y0 y1
   unfold eyewitnessref06_Small.j0
   repeat' first
   | (with_reducible exact ih0 _ _)
   | (with_reducible exact ih1 _ _)
   | (with_reducible exact eyewitnessref06_Count.mono _ _)
   | (with_reducible exact eyewitnessref06_Flat.mono _ _)
   | (with_reducible exact LeO.refl _)
   | (with_reducible exact LeO.none _)
   | (with_reducible refine LeO.ite ?_ ?_)
   | (with_reducible refine LeO.bind ?_ (fun _ => ?_))
   | exact ih0 _ _
   | exact ih1 _ _
   | exact eyewitnessref06_Count.mono _ _
   | exact eyewitnessref06_Flat.mono _ _
   | exact LeO.none _
   | refine LeO.ite ?_ ?_
   | refine LeO.bind ?_ (fun _ => ?_)
  ·intro y0 y1
   unfold eyewitnessref06_Small.l0
   repeat' first
   | (with_reducible exact ih0 _ _)
   | (with_reducible exact ih1 _ _)
   | (with_reducible exact eyewitnessref06_Count.mono _ _)
   | (with_reducible exact eyewitnessref06_Flat.mono _ _)
   | (with_reducible exact LeO.refl _)
   | (with_reducible exact LeO.none _)
   | (with_reducible refine LeO.ite ?_ ?_)
   | (with_reducible refine LeO.bind ?_ (fun _ => ?_))
   | exact ih0 _ _
   | exact ih1 _ _
   | exact eyewitnessref06_Count.mono _ _
   | exact eyewitnessref06_Flat.mono _ _
   | exact LeO.none _
   | refine LeO.ite ?_ ?_
   | refine LeO.bind ?_ (fun _ => ?_)
theorem eyewitnessref06_Small.mono : ∀ a0 a1 k, LeO (eyewitnessref06_Small.f k a0 a1) (eyewitnessref06_Small.f (k + 1) a0 a1) := by
 intro a0 a1 k
 obtain ⟨ih0, ih1⟩ := eyewitnessref06_Small.mono_l k
 unfold eyewitnessref06_Small.f
 repeat' first
   | (with_reducible exact ih0 _ _)
   | (with_reducible exact ih1 _ _)
   | (with_reducible exact eyewitnessref06_Count.mono _ _)
   | (with_reducible exact eyewitnessref06_Flat.mono _ _)
   | (with_reducible exact LeO.refl _)
   | (with_reducible exact LeO.none _)
   | (with_reducible refine LeO.ite ?_ ?_)
   | (with_reducible refine LeO.bind ?_ (fun _ => ?_))
   | exact ih0 _ _
   | exact ih1 _ _
   | exact eyewitnessref06_Count.mono _ _
   | exact eyewitnessref06_Flat.mono _ _
   | exact LeO.none _
   | refine LeO.ite ?_ ?_
   | refine LeO.bind ?_ (fun _ => ?_)
set_option maxHeartbeats 8000000 in
set_option maxRecDepth 100000 in
theorem eyewitnessref06_Small.calls (k : Nat) (A0 : Option Addr) (c0 : Nat) (l0 : List (List (S45))) (a1 : Int) (r : Bool) (w : World) (hr0 : Kd.C (Kd.slice 45 k45) w A0 l0.length l0) (hc0 : l0.length ≤ c0) (h : eyewitnessref06_Small.f k l0 a1 = some r) :
  Calls Try.prog 6 #[.slice A0 l0.length c0, .int .i64 a1] w fun e w' => e = .returned (.bool r) ∧ Below w.heap.size w w' := by
 have HR0 := Aside0.mk hr0
 have HC0 := Aside0.mk hc0
 clear hr0 hc0
 have HB := Aside0.mk (Below.refl w.heap.size w)
 have H : (if (l0.length : Int) > a1 then (eyewitnessref06_Small.j0 k l0 true) else ((eyewitnessref06_Count.f k l0).bind fun t108 => (eyewitnessref06_Small.j0 k l0 (decide (t108 > a1))))) = some r := h
 clear h
 have HC3 := Aside0.mk H
 clear H
 go_enter Try.func6, Try.ntmps6
 go_upto_region 1 with (fail)
 go_cut [16] (fun v16 wc => ∃ (kq : Nat) (x16_2 : Bool), v16 = .bool x16_2 ∧ Aside0 (eyewitnessref06_Small.j0 kq l0 x16_2 = some r) ∧ Aside0 (kq ≤ k) ∧ Aside0 (Below w.heap.size w wc))
 case first =>
  have H := HC3.out
  clear HC3
  by_cases c4 : (l0.length : Int) > a1
  ·rw [if_pos c4] at H
   have c4b0 : decide (a1 < (l0.length : Int)) = true := decide_eq_true c4
   clear c4
   (first | rw [c4b0] | (simp only [i64_w, i32_w]; rw [c4b0]) | skip)
   have H' := Aside0.mk H
   clear H
   go_wp2
   go_meet
   case rel => exact ⟨_, (true), (by first | rfl | (simp; done) | (simp [*]; done)), H', ⟨by first | omega | exact Nat.le_refl _⟩, ⟨tH⟩⟩
  ·rw [if_neg c4] at H
   have c4b0 : decide (a1 < (l0.length : Int)) = false := decide_eq_false c4
   clear c4
   (first | rw [c4b0] | (simp only [i64_w, i32_w]; rw [c4b0]) | skip)
   replace H := Option.bind_eq_some_iff.mp H
   obtain ⟨t108, A50, H⟩ := H
   replace H : (eyewitnessref06_Small.j0 k l0 (decide (t108 > a1))) = some r := H
   have A5 := Aside0.mk A50
   clear A50
   have H' := Aside0.mk H
   clear H
   go_wp2_with (first | (go_at_call 13; (with_reducible refine (eyewitnessref06_Count.calls k _ _ l0 t108 _ ?side1 ?side2 A5.out).mono ?_); (case side1 => exact tC HR0); (case side2 => exact HC0.out); rintro e w6 ⟨rfl, hb⟩; have n0_ := Aside0.mk (below_step tH hb); clear HB; have HB := n0_; clear n0_; (try clear hb); (try clear hb2); (try clear hk); (try clear hi)))
   go_meet
   case rel => exact ⟨_, (decide (t108 > a1)), (by first | rfl | (simp; done) | (simp [*]; done)), H', ⟨by first | omega | exact Nat.le_refl _⟩, ⟨tH⟩⟩
 case rest =>
  clear HC3
  try clear p2
  try clear c4
  try clear c4b0
  try clear c6
  obtain ⟨kq, x16_2, rfl, HA, HJ2, HB⟩ := hcut
  cases kq with
  | zero => exact absurd HA.out (by simp [eyewitnessref06_Small.j0])
  | succ kj2 =>
   have H := HA.out
   clear HA
   simp only [eyewitnessref06_Small.j0] at H
   by_cases c7 : x16_2 = true
   ·subst c7
    have H1 : (some false) = some r := by rw [if_pos rfl] at H; exact H
    clear H
    have H := H1
    clear H1
    obtain rfl := Option.some.inj H
    go_wp2
    go_ret
    exact ⟨by first | rfl | (simp [errW_none, errW_some] <;> rfl) | (simp [*, errW_none, errW_some] <;> rfl), tH⟩
   ·replace c7 := Bool.eq_false_iff.mpr c7
    subst c7
    have H1 : ((eyewitnessref06_Flat.f kj2 l0).bind fun t109 => (eyewitnessref06_Small.l0 kj2 t109 0)) = some r := by rw [if_neg (show ¬ (false = true) by decide)] at H; exact H
    clear H
    have H := H1
    clear H1
    replace H := Option.bind_eq_some_iff.mp H
    obtain ⟨t109, A80, H⟩ := H
    replace H : (eyewitnessref06_Small.l0 kj2 t109 0) = some r := H
    have A8 := Aside0.mk A80
    clear A80
    have H' := Aside0.mk H
    clear H
    go_wp2_with (first | ((with_reducible refine gate_callee (f := 14) rfl ?_); refine goesL_ (some 18) rfl rfl Try.func14 (by kernel_rfl) rfl #[.slice A0 l0.length c0] rfl (by (try simp only [List.map_toArray, List.map_cons, List.map_nil]); first | done | rfl | (simp only [List.length_drop, List.length_take]; rfl)) ?_; (with_reducible refine (eyewitnessref06_Flat.calls kj2 _ _ l0 t109 _ ?side1 ?side2 A8.out).mono ?_); (case side1 => exact tC HR0); (case side2 => exact HC0.out); rintro e w9 ⟨v110, rfl, ho0, hb⟩; refine ⟨_, rfl, ?_⟩; have n0_ := Aside0.mk (Kd.R_lower ho0 (below_size tH)); have n1_ := Aside0.mk (below_step tH hb); clear HB; have HO111 := n0_; have HB := n1_; clear n0_ n1_; (try clear hb); (try clear hb2); (try clear hk); (try clear hi); (try clear ho0)))
    go_loopg [6] kj2 (fun kq v6 w' => ∃ (x6_2 : Int), v6 = .int .i64 x6_2 ∧ Aside0 (eyewitnessref06_Small.l0 kq t109 x6_2 = some r) ∧ Aside0 (kq ≤ kj2) ∧ Aside0 (Kd.R k45 45 w' w.heap.size (fun _ => True) v110 t109) ∧ Aside0 (Below w.heap.size w w'))
    case atStart => exact ⟨(0), (by first | rfl | (simp; done) | (simp [*]; done)), H', ⟨Nat.le_refl _⟩, ⟨by (with_reducible repeat (first | apply Kd.R_alloc | apply Kd.R_drewN | apply Kd.R_drew)); exact HO111.out⟩, ⟨tH⟩⟩
    case round =>
     clear H'
     try clear c1
     try clear p2
     try clear c4
     try clear c4b0
     try clear c6
     try clear c7
     try clear p2
     obtain ⟨x6_2, rfl, HA, HK2, HO_5, HB⟩ := hrel
     cases gk with
     | zero => exact absurd HA.out (by simp [eyewitnessref06_Small.l0])
     | succ k2 =>
      have H := HA.out
      clear HA
      simp only [eyewitnessref06_Small.l0] at H
      by_cases c10 : x6_2 < (t109.length : Int)
      ·rw [if_pos c10] at H
       have c10b0 : decide (x6_2 < (t109.length : Int)) = true := decide_eq_true c10
       clear c10
       by_cases c11 : 0 ≤ x6_2
       ·rw [if_pos c11] at H
        have c11b0 : decide (0 ≤ x6_2) = true := decide_eq_true c11
        clear c11
        by_cases c12 : (((rd_T45 t109 x6_2).f1).size : Int) > 20
        ·rw [if_pos c12] at H
         have c12b0 : decide (20 < (((rd_T45 t109 x6_2).f1).size : Int)) = true := decide_eq_true c12
         have c12b1 : decide (20 < ((rd_T45 t109 x6_2).f1).size) = true := decide_eq_true (by omega)
         clear c12
         obtain rfl := Option.some.inj H
         obtain ⟨Ao13, co13, eo13⟩ := Kd.R_slice HO_5.out
         subst eo13
         have p112 : 0 ≤ (x6_2 : Int) := of_decide_eq_true aS
         have q112 : x6_2 < (t109.length : Int) := of_decide_eq_true aS
         obtain ⟨ad112, e112, hx112_0, hx112_1, hx112_2⟩ := at_T45 (Kd.R_reads' HO_5.out).2.2 x6_2 p112 q112
         cases e112
         replace p112 := eq_true p112
         replace q112 := eq_true q112
         go_wp2
         go_ret
         exact ⟨by first | rfl | (simp [errW_none, errW_some] <;> rfl) | (simp [*, errW_none, errW_some] <;> rfl), tH⟩
        ·rw [if_neg c12] at H
         have c12b0 : decide (20 < (((rd_T45 t109 x6_2).f1).size : Int)) = false := decide_eq_false c12
         have c12b1 : decide (20 < ((rd_T45 t109 x6_2).f1).size) = false := decide_eq_false (by omega)
         clear c12
         have H' := Aside0.mk H
         clear H
         obtain ⟨Ao14, co14, eo14⟩ := Kd.R_slice HO_5.out
         subst eo14
         have p112 : 0 ≤ (x6_2 : Int) := of_decide_eq_true aS
         have q112 : x6_2 < (t109.length : Int) := of_decide_eq_true aS
         obtain ⟨ad112, e112, hx112_0, hx112_1, hx112_2⟩ := at_T45 (Kd.R_reads' HO_5.out).2.2 x6_2 p112 q112
         cases e112
         replace p112 := eq_true p112
         replace q112 := eq_true q112
         go_wp2
         go_roundg k2
         case measure => have := HJ2.out; have := HK2.out; omega
         case rel => exact ⟨(wrap64 (x6_2 + 1)), (by first | rfl | (simp; done) | (simp [*]; done)), H', ⟨by have := HJ2.out; have := HK2.out; omega⟩, ⟨by (with_reducible repeat (first | apply Kd.R_alloc | apply Kd.R_drewN | apply Kd.R_drew)); exact HO_5.out⟩, ⟨tH⟩⟩
       ·rw [if_neg c11] at H
        exact absurd H (by simp)
      ·rw [if_neg c10] at H
       have c10b0 : decide (x6_2 < (t109.length : Int)) = false := decide_eq_false c10
       clear c10
       obtain rfl := Option.some.inj H
       obtain ⟨Ao15, co15, eo15⟩ := Kd.R_slice HO_5.out
       subst eo15
       go_wp2
       go_ret
       exact ⟨by first | rfl | (simp [errW_none, errW_some] <;> rfl) | (simp [*, errW_none, errW_some] <;> rfl), tH⟩

end Go.Proofs.Ytcnjnollmamifaa.P
