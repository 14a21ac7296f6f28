-- written by a program (wip/tools/pr.py: the kit's print over this seat)
import Derived.Test.YtcnjnollmamifaaPKinds
import Derived.Test.YtcnjnollmamifaaPRef06Flat
import Derived.Test.YtcnjnollmamifaaPRef06Name
namespace Go.Proofs.Ytcnjnollmamifaa.P
open Go.RowKit Go.Proofs.YtcnjnollmamifaaW.PrintWords Go.Proofs.YtcnjnollmamifaaW.PrintLast Go.Proofs.YtcnjnollmamifaaW.PrintMore
attribute [local go_sem] max2_int min2_int max_two min_two max_three min_three max_four min_four   -- for this text's walks alone
set_option linter.unusedVariables false
set_option linter.unusedSimpArgs false

/-! ### eyewitnessref06_Right: function 22 -/
def eyewitnessref06_Right.l0 : Nat → List (S45) → Int → Option (Bool)
 | 0, _, _ => none
 | k + 1, x3, x4 => if x4 < (x3.length : Int) then (if 0 ≤ x4 then ((eyewitnessref06_Name.f k ((rd_T45 x3 x4).f1)).bind fun t117 => (if t117 = true then (eyewitnessref06_Right.l0 k x3 (wrap64 (x4 + 1))) else (some false))) else (none)) else (some (decide ((x3.length : Int) ≤ 4096)))
def eyewitnessref06_Right.f (k : Nat) (l0 : List (List (S45))) : Option (Bool) := (eyewitnessref06_Flat.f k l0).bind fun t113 => (eyewitnessref06_Right.l0 k t113 0)
theorem eyewitnessref06_Right.mono_l : ∀ k, (∀ y0 y1, LeO (eyewitnessref06_Right.l0 k y0 y1) (eyewitnessref06_Right.l0 (k + 1) y0 y1))
 | 0 => fun _ _ r h => by simp [eyewitnessref06_Right.l0] at h
 | k + 1 => by
  have ih0 := eyewitnessref06_Right.mono_l k
  ·intro y0 y1
   unfold eyewitnessref06_Right.l0
   repeat' first
   | (with_reducible exact ih0 _ _)
   | (with_reducible exact eyewitnessref06_Flat.mono _ _)
   | (with_reducible exact eyewitnessref06_Name.mono _ _)
   | (with_reducible exact LeO.refl _)
   | (with_reducible exact LeO.none _)
   | (with_reducible refine LeO.ite ?_ ?_)
   | (with_reducible refine LeO.bind ?_ (fun _ => ?_))
   | exact ih0 _ _
   | exact eyewitnessref06_Flat.mono _ _
   | exact eyewitnessref06_Name.mono _ _
   | exact LeO.none _
   | refine LeO.ite ?_ ?_
   | refine LeO.bind ?_ (fun _ => ?_)
theorem eyewitnessref06_Right.mono : ∀ a0 k, LeO (eyewitnessref06_Right.f k a0) (eyewitnessref06_Right.f (k + 1) a0) := by
 intro a0 k
 have ih0 := eyewitnessref06_Right.mono_l k
 unfold eyewitnessref06_Right.f
 repeat' first
   | (with_reducible exact ih0 _ _)
   | (with_reducible exact eyewitnessref06_Flat.mono _ _)
   | (with_reducible exact eyewitnessref06_Name.mono _ _)
   | (with_reducible exact LeO.refl _)
   | (with_reducible exact LeO.none _)
   | (with_reducible refine LeO.ite ?_ ?_)
   | (with_reducible refine LeO.bind ?_ (fun _ => ?_))
   | exact ih0 _ _
   | exact eyewitnessref06_Flat.mono _ _
   | exact eyewitnessref06_Name.mono _ _
   | exact LeO.none _
   | refine LeO.ite ?_ ?_
   | refine LeO.bind ?_ (fun _ => ?_)
set_option maxHeartbeats 8000000 in
set_option maxRecDepth 100000 in
theorem eyewitnessref06_Right.calls (k : Nat) (A0 : Option Addr) (c0 : Nat) (l0 : List (List (S45))) (r : Bool) (w : World) (hr0 : Kd.C (Kd.slice 45 k45) w A0 l0.length l0) (hc0 : l0.length ≤ c0) (h : eyewitnessref06_Right.f k l0 = some r) :
  Calls Try.prog 22 #[.slice A0 l0.length c0] w fun e w' => e = .returned (.bool r) ∧ Below w.heap.size w w' := by
 have HR0 := Aside0.mk hr0
 have HC0 := Aside0.mk hc0
 clear hr0 hc0
 have HB := Aside0.mk (Below.refl w.heap.size w)
 have H : ((eyewitnessref06_Flat.f k l0).bind fun t113 => (eyewitnessref06_Right.l0 k t113 0)) = some r := h
 clear h
 replace H := Option.bind_eq_some_iff.mp H
 obtain ⟨t113, A20, H⟩ := H
 replace H : (eyewitnessref06_Right.l0 k t113 0) = some r := H
 have A2 := Aside0.mk A20
 clear A20
 have H' := Aside0.mk H
 clear H
 go_enter Try.func22, Try.ntmps22
 go_wp2_with (first | ((with_reducible refine gate_callee (f := 14) rfl ?_); refine goesL_ (some 6) rfl rfl Try.func14 (by kernel_rfl) rfl #[.slice A0 l0.length c0] rfl (by (try simp only [List.map_toArray, List.map_cons, List.map_nil]); first | done | rfl | (simp only [List.length_drop, List.length_take]; rfl)) ?_; (with_reducible refine (eyewitnessref06_Flat.calls k _ _ l0 t113 _ ?side1 ?side2 A2.out).mono ?_); (case side1 => repeat (first | exact HR0.out | (with_reducible refine Kd.C_alloc ?_ _) | (with_reducible refine Kd.C_drewN ?_ _) | (with_reducible refine Kd.C_drew ?_))); (case side2 => exact HC0.out); rintro e w3 ⟨v114, rfl, ho0, hb⟩; refine ⟨_, rfl, ?_⟩; have n0_ := Aside0.mk (Kd.R_lower ho0 (below_size tH)); have n1_ := Aside0.mk (below_step tH hb); clear HB; have HO115 := n0_; have HB := n1_; clear n0_ n1_; (try clear hb); (try clear hb2); (try clear hk); (try clear hi); (try clear ho0)))
 go_loopg [4] k (fun kq v4 w' => ∃ (x4_1 : Int), v4 = .int .i64 x4_1 ∧ Aside0 (eyewitnessref06_Right.l0 kq t113 x4_1 = some r) ∧ Aside0 (kq ≤ k) ∧ Aside0 (Kd.R k45 45 w' w.heap.size (fun _ => True) v114 t113) ∧ Aside0 (Below w.heap.size w w'))
 case atStart => exact ⟨(0), (by first | rfl | (simp; done) | (simp [*]; done)), H', ⟨Nat.le_refl _⟩, ⟨by (with_reducible repeat (first | apply Kd.R_alloc | apply Kd.R_drewN | apply Kd.R_drew)); exact HO115.out⟩, ⟨tH⟩⟩
 case round =>
  clear H'
  try clear c1
  try clear c2
  try clear p2
  obtain ⟨x4_1, rfl, HA, HK1, HO_3, HB⟩ := hrel
  cases gk with
  | zero => exact absurd HA.out (by simp [eyewitnessref06_Right.l0])
  | succ k1 =>
   have H := HA.out
   clear HA
   simp only [eyewitnessref06_Right.l0] at H
   by_cases c4 : x4_1 < (t113.length : Int)
   ·rw [if_pos c4] at H
    have c4b0 : decide (x4_1 < (t113.length : Int)) = true := decide_eq_true c4
    clear c4
    by_cases c5 : 0 ≤ x4_1
    ·rw [if_pos c5] at H
     have c5b0 : decide (0 ≤ x4_1) = true := decide_eq_true c5
     clear c5
     replace H := Option.bind_eq_some_iff.mp H
     obtain ⟨t117, A60, H⟩ := H
     replace H : (if t117 = true then (eyewitnessref06_Right.l0 k1 t113 (wrap64 (x4_1 + 1))) else (some false)) = some r := H
     have A6 := Aside0.mk A60
     clear A60
     by_cases c7 : t117 = true
     ·subst c7
      have H1 : (eyewitnessref06_Right.l0 k1 t113 (wrap64 (x4_1 + 1))) = some r := by rw [if_pos rfl] at H; exact H
      clear H
      have H := H1
      clear H1
      have H' := Aside0.mk H
      clear H
      obtain ⟨Ao8, co8, eo8⟩ := Kd.R_slice HO_3.out
      subst eo8
      have p116 : 0 ≤ (x4_1 : Int) := of_decide_eq_true aS
      have q116 : x4_1 < (t113.length : Int) := of_decide_eq_true aS
      obtain ⟨ad116, e116, hx116_0, hx116_1, hx116_2⟩ := at_T45 (Kd.R_reads' HO_3.out).2.2 x4_1 p116 q116
      cases e116
      replace p116 := eq_true p116
      replace q116 := eq_true q116
      go_wp2_with (first | ((with_reducible refine gate_callee (f := 26) rfl ?_); refine goesL_ (some 18) rfl rfl Try.func26 (by kernel_rfl) rfl #[.string ((rd_T45 t113 x4_1).f1)] rfl (by (try simp only [List.map_toArray, List.map_cons, List.map_nil]); first | done | rfl | (simp only [List.length_drop, List.length_take]; rfl)) ?_; (with_reducible refine (eyewitnessref06_Name.calls k1 ((rd_T45 t113 x4_1).f1) true _ A6.out).mono ?_); rintro e w' ⟨rfl, ⟨nd, rfl⟩⟩; refine ⟨_, rfl, ?_⟩))
      go_roundg k1
      case measure => have := HK1.out; omega
      case rel => exact ⟨(wrap64 (x4_1 + 1)), (by first | rfl | (simp; done) | (simp [*]; done)), H', ⟨by have := HK1.out; omega⟩, ⟨by (with_reducible repeat (first | apply Kd.R_alloc | apply Kd.R_drewN | apply Kd.R_drew)); exact HO_3.out⟩, ⟨tH⟩⟩
     ·replace c7 := Bool.eq_false_iff.mpr c7
      subst c7
      have H1 : (some false) = some r := by rw [if_neg (show ¬ (false = true) by decide)] at H; exact H
      clear H
      have H := H1
      clear H1
      obtain rfl := Option.some.inj H
      obtain ⟨Ao9, co9, eo9⟩ := Kd.R_slice HO_3.out
      subst eo9
      have p116 : 0 ≤ (x4_1 : Int) := of_decide_eq_true aS
      have q116 : x4_1 < (t113.length : Int) := of_decide_eq_true aS
      obtain ⟨ad116, e116, hx116_0, hx116_1, hx116_2⟩ := at_T45 (Kd.R_reads' HO_3.out).2.2 x4_1 p116 q116
      cases e116
      replace p116 := eq_true p116
      replace q116 := eq_true q116
      go_wp2_with (first | ((with_reducible refine gate_callee (f := 26) rfl ?_); refine goesL_ (some 18) rfl rfl Try.func26 (by kernel_rfl) rfl #[.string ((rd_T45 t113 x4_1).f1)] rfl (by (try simp only [List.map_toArray, List.map_cons, List.map_nil]); first | done | rfl | (simp only [List.length_drop, List.length_take]; rfl)) ?_; (with_reducible refine (eyewitnessref06_Name.calls k1 ((rd_T45 t113 x4_1).f1) false _ A6.out).mono ?_); rintro e w' ⟨rfl, ⟨nd, rfl⟩⟩; refine ⟨_, rfl, ?_⟩))
      go_ret
      exact ⟨by first | rfl | (simp [errW_none, errW_some] <;> rfl) | (simp [*, errW_none, errW_some] <;> rfl), tH⟩
    ·rw [if_neg c5] at H
     exact absurd H (by simp)
   ·rw [if_neg c4] at H
    have c4b0 : decide (x4_1 < (t113.length : Int)) = false := decide_eq_false c4
    clear c4
    obtain rfl := Option.some.inj H
    obtain ⟨Ao10, co10, eo10⟩ := Kd.R_slice HO_3.out
    subst eo10
    go_wp2
    go_ret
    exact ⟨by first | rfl | (simp [errW_none, errW_some] <;> rfl) | (simp [*, errW_none, errW_some] <;> rfl), tH⟩

end Go.Proofs.Ytcnjnollmamifaa.P
