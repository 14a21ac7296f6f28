-- written by a program (wip/tools/pr.py: the kit's print over this seat)
import Derived.Test.YtcnjnollmamifaaPKinds
import Derived.Test.YtcnjnollmamifaaPRef06Small
import Derived.Test.YtcnjnollmamifaaPRef11Of
import Derived.Test.YtcnjnollmamifaaPLaw22Awake
import Derived.Test.YtcnjnollmamifaaPRef22Wrong
import Derived.Test.YtcnjnollmamifaaPRef22Legal
import Derived.Test.YtcnjnollmamifaaSRun
namespace Go.Proofs.Ytcnjnollmamifaa.P
open Go.RowKit Go.Proofs.YtcnjnollmamifaaW.PrintWords Go.Proofs.YtcnjnollmamifaaW.PrintLast Go.Proofs.YtcnjnollmamifaaW.PrintMore
attribute [local go_sem] max2_int min2_int max_two min_two max_three min_three max_four min_four   -- for this text's walks alone
set_option linter.unusedVariables false
set_option linter.unusedSimpArgs false

/-! ### eyewitnesslaw22_RunTells: function 3 -/
def eyewitnesslaw22_RunTells.j0 : Nat → Bool → List (List (S45)) → List Int → List Int → Option (Bool)
 | 0, _, _, _, _ => none
 | k + 1, x24, x260000, x260001, x260002 => if x24 = true then ((eyewitnesslaw22_awake.f k).bind fun t261 => (some t261)) else ((eyewitnessref11_Of.f k x260000).bind fun bt262 => (if bt262.2.2.2 = true then ((run_Wrong.f bt262.1 bt262.2.1 bt262.2.2.1 x260001 x260002).bind fun bt274 => ((eyewitnessref22_Wrong.f k bt262.1 bt262.2.1 bt262.2.2.1 x260001 x260002).bind fun bt276 => ((eyewitnesslaw22_awake.f k).bind fun t278 => (if t278 = true then ((run_Legal.f bt262.1 bt262.2.1 bt262.2.2.1 x260001 x260002).bind fun t279 => ((eyewitnessref22_Legal.f k bt262.1 bt262.2.1 bt262.2.2.1 x260001 x260002).bind fun t280 => (if (t279 == t280) = true then (if bt274.1 = bt276.1 then (some (bt274.2 == bt276.2)) else (some false)) else (some false)))) else (some false))))) else ((eyewitnesslaw22_awake.f k).bind fun t273 => (some t273))))
def eyewitnesslaw22_RunTells.f (k : Nat) (l0_0 : List (List (S45))) (l0_1 : List Int) (l0_2 : List Int) : Option (Bool) := (eyewitnessref06_Small.f k l0_0 30).bind fun t260 => (if t260 = true then (if (l0_1.length : Int) > 40 then (eyewitnesslaw22_RunTells.j0 k true l0_0 l0_1 l0_2) else (eyewitnesslaw22_RunTells.j0 k (decide ((l0_2.length : Int) > 40)) l0_0 l0_1 l0_2)) else (eyewitnesslaw22_RunTells.j0 k true l0_0 l0_1 l0_2))
theorem eyewitnesslaw22_RunTells.mono_l : ∀ k, (∀ y0 y1 y2 y3, LeO (eyewitnesslaw22_RunTells.j0 k y0 y1 y2 y3) (eyewitnesslaw22_RunTells.j0 (k + 1) y0 y1 y2 y3))
 | 0 => fun _ _ _ _ r h => by simp [eyewitnesslaw22_RunTells.j0] at h
 | k + 1 => by
  have ih0 := eyewitnesslaw22_RunTells.mono_l k
  ·intro y0 y1 y2 y3
   unfold eyewitnesslaw22_RunTells.j0
   repeat' first
   | (with_reducible exact ih0 _ _ _ _)
   | (with_reducible exact eyewitnesslaw22_awake.mono _)
   | (with_reducible exact eyewitnessref06_Small.mono _ _ _)
   | (with_reducible exact eyewitnessref11_Of.mono _ _)
   | (with_reducible exact eyewitnessref22_Legal.mono _ _ _ _ _ _)
   | (with_reducible exact eyewitnessref22_Wrong.mono _ _ _ _ _ _)
   | (with_reducible exact LeO.refl _)
   | (with_reducible exact LeO.none _)
   | (with_reducible refine LeO.ite ?_ ?_)
   | (with_reducible refine LeO.bind ?_ (fun _ => ?_))
   | exact ih0 _ _ _ _
   | exact eyewitnesslaw22_awake.mono _
   | exact eyewitnessref06_Small.mono _ _ _
   | exact eyewitnessref11_Of.mono _ _
   | exact eyewitnessref22_Legal.mono _ _ _ _ _ _
   | exact eyewitnessref22_Wrong.mono _ _ _ _ _ _
   | exact LeO.none _
   | refine LeO.ite ?_ ?_
   | refine LeO.bind ?_ (fun _ => ?_)
theorem eyewitnesslaw22_RunTells.mono : ∀ a0 a1 a2 k, LeO (eyewitnesslaw22_RunTells.f k a0 a1 a2) (eyewitnesslaw22_RunTells.f (k + 1) a0 a1 a2) := by
 intro a0 a1 a2 k
 have ih0 := eyewitnesslaw22_RunTells.mono_l k
 unfold eyewitnesslaw22_RunTells.f
 repeat' first
   | (with_reducible exact ih0 _ _ _ _)
   | (with_reducible exact eyewitnesslaw22_awake.mono _)
   | (with_reducible exact eyewitnessref06_Small.mono _ _ _)
   | (with_reducible exact eyewitnessref11_Of.mono _ _)
   | (with_reducible exact eyewitnessref22_Legal.mono _ _ _ _ _ _)
   | (with_reducible exact eyewitnessref22_Wrong.mono _ _ _ _ _ _)
   | (with_reducible exact LeO.refl _)
   | (with_reducible exact LeO.none _)
   | (with_reducible refine LeO.ite ?_ ?_)
   | (with_reducible refine LeO.bind ?_ (fun _ => ?_))
   | exact ih0 _ _ _ _
   | exact eyewitnesslaw22_awake.mono _
   | exact eyewitnessref06_Small.mono _ _ _
   | exact eyewitnessref11_Of.mono _ _
   | exact eyewitnessref22_Legal.mono _ _ _ _ _ _
   | exact eyewitnessref22_Wrong.mono _ _ _ _ _ _
   | exact LeO.none _
   | refine LeO.ite ?_ ?_
   | refine LeO.bind ?_ (fun _ => ?_)
def eyewitnesslaw22_RunTells.T8 : Bool × List (List Nat × List Nat) := (true, [([], []), ([0, 0], [0]), ([1], [1]), ([1], [1]), ([3, 1], [1, 3]), ([1], [1]), ([5, 1], [1, 5]), ([2, 4, 6, 1, 1], [1, 2, 4, 6]), ([1], [1]), ([1], [1]), ([9, 1], [1, 9]), ([1], [1]), ([11, 1], [1, 11]), ([8, 10, 12, 7, 1], [1, 8, 10, 12]), ([7, 13, 1], [1, 7, 13]), ([1, 14], [1, 14]), ([15, 13], [15]), ([16], [16]), ([16], [16]), ([17, 18, 16], [16, 17, 18]), ([16, 19], [16, 19]), ([20, 16], [20]), ([21], [21]), ([21], [21]), ([22, 23, 21], [21, 22, 23]), ([21, 24], [21, 24]), ([25, 21, 0, 1, 2, 3, 4, 5, 6, 7, 8, 9, 10, 11, 12, 13, 14, 15, 16, 17, 18, 19, 20, 21, 22, 23, 24, 25], [25])])
def eyewitnesslaw22_RunTells.B8 : List Nat := [0, 1, 3, 3, 11, 3, 35, 127, 3, 3, 515, 3, 2051, 8191, 16383, 32767, 65535, 131071, 131071, 524287, 1048575, 2097151, 4194303, 4194303, 16777215, 33554431, 67108863]
theorem eyewitnesslaw22_RunTells.tab8 : rtab .any (opsOf Try.f3 8) = eyewitnesslaw22_RunTells.T8 := by kernel_rfl
theorem eyewitnesslaw22_RunTells.bits8 : waitsOk eyewitnesslaw22_RunTells.T8.2 eyewitnesslaw22_RunTells.B8 = true := by kernel_rfl
set_option maxHeartbeats 8000000 in
set_option maxRecDepth 100000 in
theorem eyewitnesslaw22_RunTells.calls (k : Nat) (A0_0 : Option Addr) (c0_0 : Nat) (l0_0 : List (List (S45))) (A0_1 : Option Addr) (c0_1 : Nat) (l0_1 : List Int) (A0_2 : Option Addr) (c0_2 : Nat) (l0_2 : List Int) (r : Bool) (w : World) (hr0_0 : Kd.C (Kd.slice 45 k45) w A0_0 l0_0.length l0_0) (hc0_0 : l0_0.length ≤ c0_0) (hr0_1 : Kd.C (Kd.int .i64) w A0_1 l0_1.length l0_1) (hc0_1 : l0_1.length ≤ c0_1) (hr0_2 : Kd.C (Kd.int .i64) w A0_2 l0_2.length l0_2) (hc0_2 : l0_2.length ≤ c0_2) (h : eyewitnesslaw22_RunTells.f k l0_0 l0_1 l0_2 = some r) :
  Calls Try.prog 3 #[.agg #[.slice A0_0 l0_0.length c0_0, .slice A0_1 l0_1.length c0_1, .slice A0_2 l0_2.length c0_2]] w fun e w' => e = .returned (.bool r) ∧ Below w.heap.size w w' := by
 have hu25 := Try.underlying25
 have hu31 := Try.underlying31
 have HR0_0 := Aside0.mk hr0_0
 have HC0_0 := Aside0.mk hc0_0
 clear hr0_0 hc0_0
 have HR0_1 := Aside0.mk hr0_1
 have HC0_1 := Aside0.mk hc0_1
 clear hr0_1 hc0_1
 have HR0_2 := Aside0.mk hr0_2
 have HC0_2 := Aside0.mk hc0_2
 clear hr0_2 hc0_2
 have HB := Aside0.mk (Below.refl w.heap.size w)
 have H : ((eyewitnessref06_Small.f k l0_0 30).bind fun t260 => (if t260 = true then (if (l0_1.length : Int) > 40 then (eyewitnesslaw22_RunTells.j0 k true l0_0 l0_1 l0_2) else (eyewitnesslaw22_RunTells.j0 k (decide ((l0_2.length : Int) > 40)) l0_0 l0_1 l0_2)) else (eyewitnesslaw22_RunTells.j0 k true l0_0 l0_1 l0_2))) = some r := h
 clear h
 have HC2 := Aside0.mk H
 clear H
 go_enter Try.func3, Try.ntmps3
 go_upto_region 1 with (first | ((with_reducible refine gate_dst (N := 1) rfl ?_); (try (refine gate_guard (by rfl) ?_; dsimp only)); refine box_event ?hg (N := 1) ?hd (cs := #[.slice A0_0 l0_0.length c0_0, .slice A0_1 l0_1.length c0_1, .slice A0_2 l0_2.length c0_2]) (t := 25) ?hr ?_; (case hd => rfl); (case hg => rfl); (case hr => first | (go_simp; done) | (go_simp; rfl)); intro gb259 hg w3 hbox hb; have n0_ := Aside0.mk (below_step tH hb); have n1_ := Aside0.mk (hbox); have n2_ := Aside0.mk ((by rw [hg]; exact (below_size tH) : w.heap.size ≤ gb259)); have n3_ := Aside0.mk ((by rw [hg]; exact (below_size tH) : w.heap.size ≤ gb259)); clear HB; have HB := n0_; have BK259 := n1_; have GW259 := n2_; have GE259 := n3_; clear n0_ n1_ n2_ n3_; clear hb hbox hg))
 (try simp only [Act.put, List.setIfInBounds_toArray, List.set_cons_zero, List.set_cons_succ])
 go_cut [24] (fun v24 wc => ∃ (kq : Nat) (x24_1 : Bool), v24 = .bool x24_1 ∧ Aside0 (eyewitnesslaw22_RunTells.j0 kq x24_1 l0_0 l0_1 l0_2 = some r) ∧ Aside0 (kq ≤ k) ∧ Aside0 (wc.heap[gb259]? = some (.cells #[(.slice A0_0 l0_0.length c0_0), (.slice A0_1 l0_1.length c0_1), (.slice A0_2 l0_2.length c0_2)] 25 (0, 0))) ∧ Aside0 (Below w.heap.size w wc))
 case first =>
  have H := HC2.out
  clear HC2
  replace H := Option.bind_eq_some_iff.mp H
  obtain ⟨t260, A40, H⟩ := H
  replace H : (if t260 = true then (if (l0_1.length : Int) > 40 then (eyewitnesslaw22_RunTells.j0 k true l0_0 l0_1 l0_2) else (eyewitnesslaw22_RunTells.j0 k (decide ((l0_2.length : Int) > 40)) l0_0 l0_1 l0_2)) else (eyewitnesslaw22_RunTells.j0 k true l0_0 l0_1 l0_2)) = some r := H
  have A4 := Aside0.mk A40
  clear A40
  by_cases c5 : t260 = true
  ·subst c5
   have H1 : (if (l0_1.length : Int) > 40 then (eyewitnesslaw22_RunTells.j0 k true l0_0 l0_1 l0_2) else (eyewitnesslaw22_RunTells.j0 k (decide ((l0_2.length : Int) > 40)) l0_0 l0_1 l0_2)) = some r := by rw [if_pos rfl] at H; exact H
   clear H
   have H := H1
   clear H1
   by_cases c6 : (l0_1.length : Int) > 40
   ·rw [if_pos c6] at H
    have c6b0 : decide (40 < (l0_1.length : Int)) = true := decide_eq_true c6
    have c6b1 : decide (40 < l0_1.length) = true := decide_eq_true (by omega)
    clear c6
    (first | rw [c6b0] | (simp only [i64_w, i32_w]; rw [c6b0]) | skip)
    have H' := Aside0.mk H
    clear H
    have hcz7_0 : w3.cell? ⟨gb259, 0, none⟩ = some (.slice A0_0 l0_0.length c0_0) := (blk_cell BK259.out 0).trans rfl
    have hcz7_1 : w3.cell? ⟨gb259, 1, none⟩ = some (.slice A0_1 l0_1.length c0_1) := (blk_cell BK259.out 1).trans rfl
    have hcz7_2 : w3.cell? ⟨gb259, 2, none⟩ = some (.slice A0_2 l0_2.length c0_2) := (blk_cell BK259.out 2).trans rfl
    have hfz7_0 := blk_frozen BK259.out 0
    have hfz7_1 := blk_frozen BK259.out 1
    have hfz7_2 := blk_frozen BK259.out 2
    go_wp2_with (first | ((with_reducible refine gate_callee (f := 6) rfl ?_); refine goesL_ (some 11) rfl rfl Try.func6 (by kernel_rfl) rfl #[.slice A0_0 l0_0.length c0_0, .int .i64 30] rfl (by (try simp only [List.map_toArray, List.map_cons, List.map_nil]); first | done | rfl | (simp only [List.length_drop, List.length_take]; rfl)) ?_; (with_reducible refine (eyewitnessref06_Small.calls k _ _ l0_0 30 true _ ?side1 ?side2 A4.out).mono ?_); (case side1 => exact tC HR0_0); (case side2 => exact HC0_0.out); rintro e w8 ⟨rfl, hb⟩; refine ⟨_, rfl, ?_⟩; have n0_ := Aside0.mk (blk_below (g := gb259) tB hb); have n1_ := Aside0.mk (below_step tH hb); clear BK259; clear HB; have BK259 := n0_; have HB := n1_; clear n0_ n1_; (try clear hb); (try clear hb2); (try clear hk); (try clear hi); have hcz9_0 : w8.cell? ⟨gb259, 0, none⟩ = some (.slice A0_0 l0_0.length c0_0) := (blk_cell BK259.out 0).trans rfl; have hcz9_1 : w8.cell? ⟨gb259, 1, none⟩ = some (.slice A0_1 l0_1.length c0_1) := (blk_cell BK259.out 1).trans rfl; have hcz9_2 : w8.cell? ⟨gb259, 2, none⟩ = some (.slice A0_2 l0_2.length c0_2) := (blk_cell BK259.out 2).trans rfl; have hfz9_0 := blk_frozen BK259.out 0; have hfz9_1 := blk_frozen BK259.out 1; have hfz9_2 := blk_frozen BK259.out 2))
    go_meet
    case rel => exact ⟨_, (true), (by first | rfl | (simp; done) | (simp [*]; done)), H', ⟨by first | omega | exact Nat.le_refl _⟩, ⟨by (with_reducible repeat (first | refine blk_drewN ?_ _ | refine blk_drew ?_ | refine blk_alloc ?_ _)); exact BK259.out⟩, ⟨tH⟩⟩
   ·rw [if_neg c6] at H
    have c6b0 : decide (40 < (l0_1.length : Int)) = false := decide_eq_false c6
    have c6b1 : decide (40 < l0_1.length) = false := decide_eq_false (by omega)
    clear c6
    (first | rw [c6b0] | (simp only [i64_w, i32_w]; rw [c6b0]) | skip)
    have H' := Aside0.mk H
    clear H
    have hcz10_0 : w3.cell? ⟨gb259, 0, none⟩ = some (.slice A0_0 l0_0.length c0_0) := (blk_cell BK259.out 0).trans rfl
    have hcz10_1 : w3.cell? ⟨gb259, 1, none⟩ = some (.slice A0_1 l0_1.length c0_1) := (blk_cell BK259.out 1).trans rfl
    have hcz10_2 : w3.cell? ⟨gb259, 2, none⟩ = some (.slice A0_2 l0_2.length c0_2) := (blk_cell BK259.out 2).trans rfl
    have hfz10_0 := blk_frozen BK259.out 0
    have hfz10_1 := blk_frozen BK259.out 1
    have hfz10_2 := blk_frozen BK259.out 2
    go_wp2_with (first | ((with_reducible refine gate_callee (f := 6) rfl ?_); refine goesL_ (some 11) rfl rfl Try.func6 (by kernel_rfl) rfl #[.slice A0_0 l0_0.length c0_0, .int .i64 30] rfl (by (try simp only [List.map_toArray, List.map_cons, List.map_nil]); first | done | rfl | (simp only [List.length_drop, List.length_take]; rfl)) ?_; (with_reducible refine (eyewitnessref06_Small.calls k _ _ l0_0 30 true _ ?side1 ?side2 A4.out).mono ?_); (case side1 => exact tC HR0_0); (case side2 => exact HC0_0.out); rintro e w11 ⟨rfl, hb⟩; refine ⟨_, rfl, ?_⟩; have n0_ := Aside0.mk (blk_below (g := gb259) tB hb); have n1_ := Aside0.mk (below_step tH hb); clear BK259; clear HB; have BK259 := n0_; have HB := n1_; clear n0_ n1_; (try clear hb); (try clear hb2); (try clear hk); (try clear hi); have hcz12_0 : w11.cell? ⟨gb259, 0, none⟩ = some (.slice A0_0 l0_0.length c0_0) := (blk_cell BK259.out 0).trans rfl; have hcz12_1 : w11.cell? ⟨gb259, 1, none⟩ = some (.slice A0_1 l0_1.length c0_1) := (blk_cell BK259.out 1).trans rfl; have hcz12_2 : w11.cell? ⟨gb259, 2, none⟩ = some (.slice A0_2 l0_2.length c0_2) := (blk_cell BK259.out 2).trans rfl; have hfz12_0 := blk_frozen BK259.out 0; have hfz12_1 := blk_frozen BK259.out 1; have hfz12_2 := blk_frozen BK259.out 2))
    go_meet
    case rel => exact ⟨_, (decide ((l0_2.length : Int) > 40)), (by first | rfl | (simp; done) | (simp [*]; done)), H', ⟨by first | omega | exact Nat.le_refl _⟩, ⟨by (with_reducible repeat (first | refine blk_drewN ?_ _ | refine blk_drew ?_ | refine blk_alloc ?_ _)); exact BK259.out⟩, ⟨tH⟩⟩
  ·replace c5 := Bool.eq_false_iff.mpr c5
   subst c5
   have H1 : (eyewitnesslaw22_RunTells.j0 k true l0_0 l0_1 l0_2) = some r := by rw [if_neg (show ¬ (false = true) by decide)] at H; exact H
   clear H
   have H := H1
   clear H1
   have H' := Aside0.mk H
   clear H
   have hcz13_0 : w3.cell? ⟨gb259, 0, none⟩ = some (.slice A0_0 l0_0.length c0_0) := (blk_cell BK259.out 0).trans rfl
   have hcz13_1 : w3.cell? ⟨gb259, 1, none⟩ = some (.slice A0_1 l0_1.length c0_1) := (blk_cell BK259.out 1).trans rfl
   have hcz13_2 : w3.cell? ⟨gb259, 2, none⟩ = some (.slice A0_2 l0_2.length c0_2) := (blk_cell BK259.out 2).trans rfl
   have hfz13_0 := blk_frozen BK259.out 0
   have hfz13_1 := blk_frozen BK259.out 1
   have hfz13_2 := blk_frozen BK259.out 2
   go_wp2_with (first | ((with_reducible refine gate_callee (f := 6) rfl ?_); refine goesL_ (some 11) rfl rfl Try.func6 (by kernel_rfl) rfl #[.slice A0_0 l0_0.length c0_0, .int .i64 30] rfl (by (try simp only [List.map_toArray, List.map_cons, List.map_nil]); first | done | rfl | (simp only [List.length_drop, List.length_take]; rfl)) ?_; (with_reducible refine (eyewitnessref06_Small.calls k _ _ l0_0 30 false _ ?side1 ?side2 A4.out).mono ?_); (case side1 => exact tC HR0_0); (case side2 => exact HC0_0.out); rintro e w14 ⟨rfl, hb⟩; refine ⟨_, rfl, ?_⟩; have n0_ := Aside0.mk (blk_below (g := gb259) tB hb); have n1_ := Aside0.mk (below_step tH hb); clear BK259; clear HB; have BK259 := n0_; have HB := n1_; clear n0_ n1_; (try clear hb); (try clear hb2); (try clear hk); (try clear hi)))
   go_meet
   case rel => exact ⟨_, (true), (by first | rfl | (simp; done) | (simp [*]; done)), H', ⟨by first | omega | exact Nat.le_refl _⟩, ⟨by (with_reducible repeat (first | refine blk_drewN ?_ _ | refine blk_drew ?_ | refine blk_alloc ?_ _)); exact BK259.out⟩, ⟨tH⟩⟩
 case rest =>
  clear HC2
  try clear p2
  try clear c3
  try clear c5
  try clear c6
  try clear c6b0
  try clear c6b1
  try clear hcz10_0
  try clear hcz10_1
  try clear hcz10_2
  try clear hcz12_0
  try clear hcz12_1
  try clear hcz12_2
  try clear hcz13_0
  try clear hcz13_1
  try clear hcz13_2
  try clear hcz7_0
  try clear hcz7_1
  try clear hcz7_2
  try clear hcz9_0
  try clear hcz9_1
  try clear hcz9_2
  try clear hfz10_0
  try clear hfz10_1
  try clear hfz10_2
  try clear hfz12_0
  try clear hfz12_1
  try clear hfz12_2
  try clear hfz13_0
  try clear hfz13_1
  try clear hfz13_2
  try clear hfz7_0
  try clear hfz7_1
  try clear hfz7_2
  try clear hfz9_0
  try clear hfz9_1
  try clear hfz9_2
  obtain ⟨kq, x24_1, rfl, HA, HJ1, BK259, HB⟩ := hcut
  cases kq with
  | zero => exact absurd HA.out (by simp [eyewitnesslaw22_RunTells.j0])
  | succ kj1 =>
   have H := HA.out
   clear HA
   simp only [eyewitnesslaw22_RunTells.j0] at H
   by_cases c15 : x24_1 = true
   ·subst c15
    have H1 : ((eyewitnesslaw22_awake.f kj1).bind fun t261 => (some t261)) = some r := by rw [if_pos rfl] at H; exact H
    clear H
    have H := H1
    clear H1
    replace H := Option.bind_eq_some_iff.mp H
    obtain ⟨t261, A160, H⟩ := H
    replace H : (some t261) = some r := H
    have A16 := Aside0.mk A160
    clear A160
    obtain rfl := Option.some.inj H
    go_wp2_with (first | ((with_reducible refine gate_callee (f := 7) rfl ?_); refine goesL_ (some 25) rfl rfl Try.func7 (by kernel_rfl) rfl #[] rfl (by (try simp only [List.map_toArray, List.map_cons, List.map_nil]); first | done | rfl | (simp only [List.length_drop, List.length_take]; rfl)) ?_; (with_reducible refine (eyewitnesslaw22_awake.calls kj1  t261 _ A16.out).mono ?_); rintro e w17 ⟨rfl, hb⟩; refine ⟨_, rfl, ?_⟩; have n0_ := Aside0.mk (blk_below (g := gb259) tB hb); have n1_ := Aside0.mk (below_step tH hb); clear BK259; clear HB; have BK259 := n0_; have HB := n1_; clear n0_ n1_; (try clear hb); (try clear hb2); (try clear hk); (try clear hi)))
    go_ret
    exact ⟨by first | rfl | (simp [errW_none, errW_some] <;> rfl) | (simp [*, errW_none, errW_some] <;> rfl), tH⟩
   ·replace c15 := Bool.eq_false_iff.mpr c15
    subst c15
    have H1 : ((eyewitnessref11_Of.f kj1 l0_0).bind fun bt262 => (if bt262.2.2.2 = true then ((run_Wrong.f bt262.1 bt262.2.1 bt262.2.2.1 l0_1 l0_2).bind fun bt274 => ((eyewitnessref22_Wrong.f kj1 bt262.1 bt262.2.1 bt262.2.2.1 l0_1 l0_2).bind fun bt276 => ((eyewitnesslaw22_awake.f kj1).bind fun t278 => (if t278 = true then ((run_Legal.f bt262.1 bt262.2.1 bt262.2.2.1 l0_1 l0_2).bind fun t279 => ((eyewitnessref22_Legal.f kj1 bt262.1 bt262.2.1 bt262.2.2.1 l0_1 l0_2).bind fun t280 => (if (t279 == t280) = true then (if bt274.1 = bt276.1 then (some (bt274.2 == bt276.2)) else (some false)) else (some false)))) else (some false))))) else ((eyewitnesslaw22_awake.f kj1).bind fun t273 => (some t273)))) = some r := by rw [if_neg (show ¬ (false = true) by decide)] at H; exact H
    clear H
    have H := H1
    clear H1
    replace H := Option.bind_eq_some_iff.mp H
    obtain ⟨⟨t262, t265, t268, t271⟩, A180, H⟩ := H
    replace H : (if t271 = true then ((run_Wrong.f t262 t265 t268 l0_1 l0_2).bind fun bt274 => ((eyewitnessref22_Wrong.f kj1 t262 t265 t268 l0_1 l0_2).bind fun bt276 => ((eyewitnesslaw22_awake.f kj1).bind fun t278 => (if t278 = true then ((run_Legal.f t262 t265 t268 l0_1 l0_2).bind fun t279 => ((eyewitnessref22_Legal.f kj1 t262 t265 t268 l0_1 l0_2).bind fun t280 => (if (t279 == t280) = true then (if bt274.1 = bt276.1 then (some (bt274.2 == bt276.2)) else (some false)) else (some false)))) else (some false))))) else ((eyewitnesslaw22_awake.f kj1).bind fun t273 => (some t273))) = some r := H
    have A18 := Aside0.mk A180
    clear A180
    by_cases c19 : t271 = true
    ·subst c19
     have H1 : ((run_Wrong.f t262 t265 t268 l0_1 l0_2).bind fun bt274 => ((eyewitnessref22_Wrong.f kj1 t262 t265 t268 l0_1 l0_2).bind fun bt276 => ((eyewitnesslaw22_awake.f kj1).bind fun t278 => (if t278 = true then ((run_Legal.f t262 t265 t268 l0_1 l0_2).bind fun t279 => ((eyewitnessref22_Legal.f kj1 t262 t265 t268 l0_1 l0_2).bind fun t280 => (if (t279 == t280) = true then (if bt274.1 = bt276.1 then (some (bt274.2 == bt276.2)) else (some false)) else (some false)))) else (some false))))) = some r := by rw [if_pos rfl] at H; exact H
     clear H
     have H := H1
     clear H1
     replace H := Option.bind_eq_some_iff.mp H
     obtain ⟨⟨t274, t275⟩, A200, H⟩ := H
     replace H : ((eyewitnessref22_Wrong.f kj1 t262 t265 t268 l0_1 l0_2).bind fun bt276 => ((eyewitnesslaw22_awake.f kj1).bind fun t278 => (if t278 = true then ((run_Legal.f t262 t265 t268 l0_1 l0_2).bind fun t279 => ((eyewitnessref22_Legal.f kj1 t262 t265 t268 l0_1 l0_2).bind fun t280 => (if (t279 == t280) = true then (if t274 = bt276.1 then (some (t275 == bt276.2)) else (some false)) else (some false)))) else (some false)))) = some r := H
     have A20 := Aside0.mk A200
     clear A200
     replace H := Option.bind_eq_some_iff.mp H
     obtain ⟨⟨t276, t277⟩, A210, H⟩ := H
     replace H : ((eyewitnesslaw22_awake.f kj1).bind fun t278 => (if t278 = true then ((run_Legal.f t262 t265 t268 l0_1 l0_2).bind fun t279 => ((eyewitnessref22_Legal.f kj1 t262 t265 t268 l0_1 l0_2).bind fun t280 => (if (t279 == t280) = true then (if t274 = t276 then (some (t275 == t277)) else (some false)) else (some false)))) else (some false))) = some r := H
     have A21 := Aside0.mk A210
     clear A210
     replace H := Option.bind_eq_some_iff.mp H
     obtain ⟨t278, A220, H⟩ := H
     replace H : (if t278 = true then ((run_Legal.f t262 t265 t268 l0_1 l0_2).bind fun t279 => ((eyewitnessref22_Legal.f kj1 t262 t265 t268 l0_1 l0_2).bind fun t280 => (if (t279 == t280) = true then (if t274 = t276 then (some (t275 == t277)) else (some false)) else (some false)))) else (some false)) = some r := H
     have A22 := Aside0.mk A220
     clear A220
     by_cases c23 : t278 = true
     ·subst c23
      have H1 : ((run_Legal.f t262 t265 t268 l0_1 l0_2).bind fun t279 => ((eyewitnessref22_Legal.f kj1 t262 t265 t268 l0_1 l0_2).bind fun t280 => (if (t279 == t280) = true then (if t274 = t276 then (some (t275 == t277)) else (some false)) else (some false)))) = some r := by rw [if_pos rfl] at H; exact H
      clear H
      have H := H1
      clear H1
      replace H := Option.bind_eq_some_iff.mp H
      obtain ⟨t279, A240, H⟩ := H
      replace H : ((eyewitnessref22_Legal.f kj1 t262 t265 t268 l0_1 l0_2).bind fun t280 => (if (t279 == t280) = true then (if t274 = t276 then (some (t275 == t277)) else (some false)) else (some false))) = some r := H
      have A24 := Aside0.mk A240
      clear A240
      replace H := Option.bind_eq_some_iff.mp H
      obtain ⟨t280, A250, H⟩ := H
      replace H : (if (t279 == t280) = true then (if t274 = t276 then (some (t275 == t277)) else (some false)) else (some false)) = some r := H
      have A25 := Aside0.mk A250
      clear A250
      by_cases c26 : (t279 == t280) = true
      ·rw [if_pos c26] at H
       have c26b0 : (t279 == t280) = true := c26
       (try (have c26b1 : decide (t279 = t280) = true := by simpa using c26))
       (try (have c26b2 : (t279 == t280) = true := by simpa using c26))
       clear c26
       by_cases c27 : t274 = t276
       ·rw [if_pos c27] at H
        have c27b0 : (t274 == t276) = true := beq_iff_eq.mpr c27
        have c27b1 : (t274 != t276) = false := bne_eq_false_iff_eq.mpr c27
        clear c27
        obtain rfl := Option.some.inj H
        have hcz28_0 : wc.cell? ⟨gb259, 0, none⟩ = some (.slice A0_0 l0_0.length c0_0) := (blk_cell BK259.out 0).trans rfl
        have hcz28_1 : wc.cell? ⟨gb259, 1, none⟩ = some (.slice A0_1 l0_1.length c0_1) := (blk_cell BK259.out 1).trans rfl
        have hcz28_2 : wc.cell? ⟨gb259, 2, none⟩ = some (.slice A0_2 l0_2.length c0_2) := (blk_cell BK259.out 2).trans rfl
        have hfz28_0 := blk_frozen BK259.out 0
        have hfz28_1 := blk_frozen BK259.out 1
        have hfz28_2 := blk_frozen BK259.out 2
        try go_wp2_with (first | ((with_reducible refine gate_callee (f := 8) rfl ?_); refine goesL_ (some 29) rfl rfl Try.func8 (by kernel_rfl) rfl #[.slice A0_0 l0_0.length c0_0] rfl (by (try simp only [List.map_toArray, List.map_cons, List.map_nil]); first | done | rfl | (simp only [List.length_drop, List.length_take]; rfl)) ?_; (with_reducible refine (eyewitnessref11_Of.calls kj1 _ _ l0_0 t262 t265 t268 true _ ?side1 ?side2 A18.out).mono ?_); (case side1 => exact tC HR0_0); (case side2 => exact HC0_0.out); rintro e w29 ⟨v263, v266, v269, rfl, ho0, ho1, ho2, hb⟩; refine ⟨_, rfl, ?_⟩; have n0_ := Aside0.mk (Kd.R_lower ho0 (below_size tH)); have n1_ := Aside0.mk (Kd.R_lower ho1 (below_size tH)); have n2_ := Aside0.mk (Kd.R_lower ho2 (below_size tH)); have n3_ := Aside0.mk (blk_below (g := gb259) tB hb); have n4_ := Aside0.mk (below_step tH hb); clear BK259; clear HB; have HO264 := n0_; have HO267 := n1_; have HO270 := n2_; have BK259 := n3_; have HB := n4_; clear n0_ n1_ n2_ n3_ n4_; (try clear hb); (try clear hb2); (try clear hk); (try clear hi); (try clear ho0); (try clear ho1); (try clear ho2)) | ((with_reducible refine gate_dst (N := 3) rfl ?_); (try (refine gate_guard (by rfl) ?_; dsimp only)); refine box_event ?hg (N := 3) ?hd (cs := #[.slice none 0 0, .slice none 0 0, .slice none 0 0]) (t := 31) ?hr ?_; (case hd => rfl); (case hg => rfl); (case hr => first | (go_simp; done) | (go_simp; rfl)); intro gb272 hg w30 hbox hb; have n0_ := Aside0.mk (Kd.R_below (tRr HO264) hb); have n1_ := Aside0.mk (Kd.R_below (tRr HO267) hb); have n2_ := Aside0.mk (Kd.R_below (tRr HO270) hb); have n3_ := Aside0.mk (blk_below (g := gb259) tB hb); have n4_ := Aside0.mk (below_step tH hb); have n5_ := Aside0.mk (hbox); have n6_ := Aside0.mk ((by rw [hg]; exact (below_size tH) : w.heap.size ≤ gb272)); have n7_ := Aside0.mk ((by rw [hg]; exact (below_size tH) : w.heap.size ≤ gb272)); have n8_ := Aside0.mk ((by rw [hg]; exact Nat.ne_of_lt (blk_lt (g := gb259) tB) : gb259 ≠ gb272)); have n9_ := Aside0.mk ((by rw [hg]; exact Nat.ne_of_gt (blk_lt (g := gb259) tB) : gb272 ≠ gb259)); clear HO264; clear HO267; clear HO270; clear BK259; clear HB; have HO264 := n0_; have HO267 := n1_; have HO270 := n2_; have BK259 := n3_; have HB := n4_; have BK272 := n5_; have GW272 := n6_; have GE272 := n7_; have NB259_272 := n8_; have NB272_259 := n9_; clear n0_ n1_ n2_ n3_ n4_ n5_ n6_ n7_ n8_ n9_; clear hb hbox hg; obtain ⟨Ao31, co31, eo31⟩ := Kd.R_slice HO264.out; subst eo31; have hnb32 := NB272_259.out; have hnc32 := NB259_272.out; have hcz33_0 : w30.cell? ⟨gb272, 0, none⟩ = some (.slice none 0 0) := (blk_cell BK272.out 0).trans rfl; have hcz33_1 : w30.cell? ⟨gb272, 1, none⟩ = some (.slice none 0 0) := (blk_cell BK272.out 1).trans rfl; have hcz33_2 : w30.cell? ⟨gb272, 2, none⟩ = some (.slice none 0 0) := (blk_cell BK272.out 2).trans rfl; have hfz33_0 := blk_frozen BK272.out 0; have hfz33_1 := blk_frozen BK272.out 1; have hfz33_2 := blk_frozen BK272.out 2; obtain ⟨Ao34, co34, eo34⟩ := Kd.R_slice HO267.out; subst eo34; obtain ⟨Ao35, co35, eo35⟩ := Kd.R_slice HO270.out; subst eo35; have hcz36_0 : w30.cell? ⟨gb259, 0, none⟩ = some (.slice A0_0 l0_0.length c0_0) := (blk_cell BK259.out 0).trans rfl; have hcz36_1 : w30.cell? ⟨gb259, 1, none⟩ = some (.slice A0_1 l0_1.length c0_1) := (blk_cell BK259.out 1).trans rfl; have hcz36_2 : w30.cell? ⟨gb259, 2, none⟩ = some (.slice A0_2 l0_2.length c0_2) := (blk_cell BK259.out 2).trans rfl; have hfz36_0 := blk_frozen BK259.out 0; have hfz36_1 := blk_frozen BK259.out 1; have hfz36_2 := blk_frozen BK259.out 2) | ((with_reducible refine gate_callee (f := 9) rfl ?_); refine goesL_ (some 41) rfl rfl Try.func9 (by kernel_rfl) rfl #[.agg #[.slice Ao31 t262.length co31, .slice Ao34 t265.length co34, .slice Ao35 t268.length co35], .slice A0_1 l0_1.length c0_1, .slice A0_2 l0_2.length c0_2] rfl (by (try simp only [List.map_toArray, List.map_cons, List.map_nil]); first | done | rfl | (simp only [List.length_drop, List.length_take]; rfl)) ?_; (with_reducible refine (run_Wrong.calls _ _ t262 _ _ t265 _ _ t268 _ _ l0_1 _ _ l0_2 t274 t275 _ ?side1 ?side2 ?side3 ?side4 ?side5 ?side6 ?side7 ?side8 ?side9 ?side10 A20.out).mono ?_); (case side1 => refine (Kd.R_reads' (e := 9) (base := w.heap.size) (ok := fun k_ => True) (n := t262.length) (c := co31) ?_).2.2; exact (by (with_reducible repeat (first | apply Kd.R_alloc | apply Kd.R_drewN | apply Kd.R_drew)); exact (Kd.R_mono (Kd.R_far (p := ⟨gb272, 2, none⟩) (Kd.R_far (p := ⟨gb272, 1, none⟩) (Kd.R_far (p := ⟨gb272, 0, none⟩) (Kd.R_types HO264.out BK272.out (by decide)) (fun _ hk => hk.2) (.slice Ao31 t262.length co31)) (fun _ hk => hk.2) (.slice Ao34 t265.length co34)) (fun _ hk => hk.2) (.slice Ao35 t268.length co35)) (fun _ h_ => h_.1)))); (case side2 => exact (Kd.R_reads' HO264.out).2.1); (case side3 => refine (Kd.R_reads' (e := 40) (base := w.heap.size) (ok := fun k_ => True) (n := t265.length) (c := co34) ?_).2.2; exact (by (with_reducible repeat (first | apply Kd.R_alloc | apply Kd.R_drewN | apply Kd.R_drew)); exact (Kd.R_mono (Kd.R_far (p := ⟨gb272, 2, none⟩) (Kd.R_far (p := ⟨gb272, 1, none⟩) (Kd.R_far (p := ⟨gb272, 0, none⟩) (Kd.R_types HO267.out BK272.out (by decide)) (fun _ hk => hk.2) (.slice Ao31 t262.length co31)) (fun _ hk => hk.2) (.slice Ao34 t265.length co34)) (fun _ hk => hk.2) (.slice Ao35 t268.length co35)) (fun _ h_ => h_.1)))); (case side4 => exact (Kd.R_reads' HO267.out).2.1); (case side5 => refine (Kd.R_reads' (e := 3) (base := w.heap.size) (ok := fun k_ => True) (n := t268.length) (c := co35) ?_).2.2; exact (by (with_reducible repeat (first | apply Kd.R_alloc | apply Kd.R_drewN | apply Kd.R_drew)); exact (Kd.R_mono (Kd.R_far (p := ⟨gb272, 2, none⟩) (Kd.R_far (p := ⟨gb272, 1, none⟩) (Kd.R_far (p := ⟨gb272, 0, none⟩) (Kd.R_types HO270.out BK272.out (by decide)) (fun _ hk => hk.2) (.slice Ao31 t262.length co31)) (fun _ hk => hk.2) (.slice Ao34 t265.length co34)) (fun _ hk => hk.2) (.slice Ao35 t268.length co35)) (fun _ h_ => h_.1)))); (case side6 => exact (Kd.R_reads' HO270.out).2.1); (case side7 => exact Kd.C_below HR0_1.out tH); (case side8 => exact HC0_1.out); (case side9 => exact Kd.C_below HR0_2.out tH); (case side10 => exact HC0_2.out); rintro e w37 ⟨rfl, hb⟩; refine ⟨_, rfl, ?_⟩; have n0_ := Aside0.mk (Kd.R_below (by (with_reducible repeat (first | apply Kd.R_alloc | apply Kd.R_drewN | apply Kd.R_drew)); exact (Kd.R_mono (Kd.R_far (p := ⟨gb272, 2, none⟩) (Kd.R_far (p := ⟨gb272, 1, none⟩) (Kd.R_far (p := ⟨gb272, 0, none⟩) (Kd.R_types HO264.out BK272.out (by decide)) (fun _ hk => hk.2) (.slice Ao31 t262.length co31)) (fun _ hk => hk.2) (.slice Ao34 t265.length co34)) (fun _ hk => hk.2) (.slice Ao35 t268.length co35)) (fun _ h_ => h_.1))) hb); have n1_ := Aside0.mk (Kd.R_below (by (with_reducible repeat (first | apply Kd.R_alloc | apply Kd.R_drewN | apply Kd.R_drew)); exact (Kd.R_mono (Kd.R_far (p := ⟨gb272, 2, none⟩) (Kd.R_far (p := ⟨gb272, 1, none⟩) (Kd.R_far (p := ⟨gb272, 0, none⟩) (Kd.R_types HO267.out BK272.out (by decide)) (fun _ hk => hk.2) (.slice Ao31 t262.length co31)) (fun _ hk => hk.2) (.slice Ao34 t265.length co34)) (fun _ hk => hk.2) (.slice Ao35 t268.length co35)) (fun _ h_ => h_.1))) hb); have n2_ := Aside0.mk (Kd.R_below (by (with_reducible repeat (first | apply Kd.R_alloc | apply Kd.R_drewN | apply Kd.R_drew)); exact (Kd.R_mono (Kd.R_far (p := ⟨gb272, 2, none⟩) (Kd.R_far (p := ⟨gb272, 1, none⟩) (Kd.R_far (p := ⟨gb272, 0, none⟩) (Kd.R_types HO270.out BK272.out (by decide)) (fun _ hk => hk.2) (.slice Ao31 t262.length co31)) (fun _ hk => hk.2) (.slice Ao34 t265.length co34)) (fun _ hk => hk.2) (.slice Ao35 t268.length co35)) (fun _ h_ => h_.1))) hb); have n3_ := Aside0.mk (blk_below (g := gb259) (o := .cells #[.slice A0_0 l0_0.length c0_0, .slice A0_1 l0_1.length c0_1, .slice A0_2 l0_2.length c0_2] 25 (0, 0)) (by (with_reducible repeat (first | refine blk_drewN ?_ _ | refine blk_drew ?_ | refine blk_alloc ?_ _)); refine blk_far ?_ NB259_272.out _; (with_reducible repeat (first | refine blk_drewN ?_ _ | refine blk_drew ?_ | refine blk_alloc ?_ _)); refine blk_far ?_ NB259_272.out _; (with_reducible repeat (first | refine blk_drewN ?_ _ | refine blk_drew ?_ | refine blk_alloc ?_ _)); refine blk_far ?_ NB259_272.out _; (with_reducible repeat (first | refine blk_drewN ?_ _ | refine blk_drew ?_ | refine blk_alloc ?_ _)); exact BK259.out) hb); have n4_ := Aside0.mk (blk_below (g := gb272) (o := .cells #[.slice Ao31 t262.length co31, .slice Ao34 t265.length co34, .slice Ao35 t268.length co35] 31 (0, 0)) (by (with_reducible repeat (first | refine blk_drewN ?_ _ | refine blk_drew ?_ | refine blk_alloc ?_ _)); refine blk_put (cs := #[.slice Ao31 t262.length co31, .slice Ao34 t265.length co34, .slice none 0 0]) ?_ 2 _ rfl; (with_reducible repeat (first | refine blk_drewN ?_ _ | refine blk_drew ?_ | refine blk_alloc ?_ _)); refine blk_put (cs := #[.slice Ao31 t262.length co31, .slice none 0 0, .slice none 0 0]) ?_ 1 _ rfl; (with_reducible repeat (first | refine blk_drewN ?_ _ | refine blk_drew ?_ | refine blk_alloc ?_ _)); refine blk_put (cs := #[.slice none 0 0, .slice none 0 0, .slice none 0 0]) ?_ 0 _ rfl; (with_reducible repeat (first | refine blk_drewN ?_ _ | refine blk_drew ?_ | refine blk_alloc ?_ _)); exact BK272.out) hb); have n5_ := Aside0.mk (below_step tH hb); clear HO264; clear HO267; clear HO270; clear BK259; clear BK272; clear HB; have HO264 := n0_; have HO267 := n1_; have HO270 := n2_; have BK259 := n3_; have BK272 := n4_; have HB := n5_; clear n0_ n1_ n2_ n3_ n4_ n5_; (try clear hb); (try clear hb2); (try clear hk); (try clear hi); have hcz38_0 : w37.cell? ⟨gb272, 0, none⟩ = some (.slice Ao31 t262.length co31) := (blk_cell BK272.out 0).trans rfl; have hcz38_1 : w37.cell? ⟨gb272, 1, none⟩ = some (.slice Ao34 t265.length co34) := (blk_cell BK272.out 1).trans rfl; have hcz38_2 : w37.cell? ⟨gb272, 2, none⟩ = some (.slice Ao35 t268.length co35) := (blk_cell BK272.out 2).trans rfl; have hfz38_0 := blk_frozen BK272.out 0; have hfz38_1 := blk_frozen BK272.out 1; have hfz38_2 := blk_frozen BK272.out 2; have hcz39_0 : w37.cell? ⟨gb259, 0, none⟩ = some (.slice A0_0 l0_0.length c0_0) := (blk_cell BK259.out 0).trans rfl; have hcz39_1 : w37.cell? ⟨gb259, 1, none⟩ = some (.slice A0_1 l0_1.length c0_1) := (blk_cell BK259.out 1).trans rfl; have hcz39_2 : w37.cell? ⟨gb259, 2, none⟩ = some (.slice A0_2 l0_2.length c0_2) := (blk_cell BK259.out 2).trans rfl; have hfz39_0 := blk_frozen BK259.out 0; have hfz39_1 := blk_frozen BK259.out 1; have hfz39_2 := blk_frozen BK259.out 2) | ((with_reducible refine gate_callee (f := 10) rfl ?_); refine goesL_ (some 50) rfl rfl Try.func10 (by kernel_rfl) rfl #[.agg #[.slice Ao31 t262.length co31, .slice Ao34 t265.length co34, .slice Ao35 t268.length co35], .slice A0_1 l0_1.length c0_1, .slice A0_2 l0_2.length c0_2] rfl (by (try simp only [List.map_toArray, List.map_cons, List.map_nil]); first | done | rfl | (simp only [List.length_drop, List.length_take]; rfl)) ?_; (with_reducible refine (eyewitnessref22_Wrong.calls kj1 _ _ t262 _ _ t265 _ _ t268 _ _ l0_1 _ _ l0_2 t276 t277 _ ?side1 ?side2 ?side3 ?side4 ?side5 ?side6 ?side7 ?side8 ?side9 ?side10 A21.out).mono ?_); (case side1 => exact tD (Kd.R_reads' HO264.out).2.2); (case side2 => exact (Kd.R_reads' HO264.out).2.1); (case side3 => exact tD (Kd.R_reads' HO267.out).2.2); (case side4 => exact (Kd.R_reads' HO267.out).2.1); (case side5 => exact tD (Kd.R_reads' HO270.out).2.2); (case side6 => exact (Kd.R_reads' HO270.out).2.1); (case side7 => exact tC HR0_1); (case side8 => exact HC0_1.out); (case side9 => exact tC HR0_2); (case side10 => exact HC0_2.out); rintro e w40 ⟨rfl, hb⟩; refine ⟨_, rfl, ?_⟩; have n0_ := Aside0.mk (Kd.R_below (tRr HO264) hb); have n1_ := Aside0.mk (Kd.R_below (tRr HO267) hb); have n2_ := Aside0.mk (Kd.R_below (tRr HO270) hb); have n3_ := Aside0.mk (blk_below (g := gb259) tB hb); have n4_ := Aside0.mk (blk_below (g := gb272) tB hb); have n5_ := Aside0.mk (below_step tH hb); clear HO264; clear HO267; clear HO270; clear BK259; clear BK272; clear HB; have HO264 := n0_; have HO267 := n1_; have HO270 := n2_; have BK259 := n3_; have BK272 := n4_; have HB := n5_; clear n0_ n1_ n2_ n3_ n4_ n5_; (try clear hb); (try clear hb2); (try clear hk); (try clear hi)))
        have n0_ := Aside0.mk (Kd.R_drew HO264.out)
        have n1_ := Aside0.mk (Kd.R_drew HO267.out)
        have n2_ := Aside0.mk (Kd.R_drew HO270.out)
        have n3_ := Aside0.mk (blk_drew BK259.out)
        have n4_ := Aside0.mk (blk_drew BK272.out)
        have n5_ := Aside0.mk (below_drew1 HB.out)
        clear HO264
        clear HO267
        clear HO270
        clear BK259
        clear BK272
        clear HB
        have HO264 := n0_
        have HO267 := n1_
        have HO270 := n2_
        have BK259 := n3_
        have BK272 := n4_
        have HB := n5_
        clear n0_ n1_ n2_ n3_ n4_ n5_
        refine start_ (n := 27) (S := fun w' => w'.cell? ⟨gb272, 0, none⟩ = some (.slice Ao31 t262.length co31) ∧ w'.cell? ⟨gb272, 1, none⟩ = some (.slice Ao34 t265.length co34) ∧ w'.cell? ⟨gb272, 2, none⟩ = some (.slice Ao35 t268.length co35) ∧ w'.cell? ⟨gb259, 0, none⟩ = some (.slice A0_0 l0_0.length c0_0) ∧ w'.cell? ⟨gb259, 1, none⟩ = some (.slice A0_1 l0_1.length c0_1) ∧ w'.cell? ⟨gb259, 2, none⟩ = some (.slice A0_2 l0_2.length c0_2)) (ds := []) (bl 27 0) (by kernel_rfl) rfl rfl ⟨(blk_cell BK272.out 0).trans rfl, (blk_cell BK272.out 1).trans rfl, (blk_cell BK272.out 2).trans rfl, (blk_cell BK259.out 0).trans rfl, (blk_cell BK259.out 1).trans rfl, (blk_cell BK259.out 2).trans rfl⟩ (fun hHeld => ?_); refine with_tabW eyewitnesslaw22_RunTells.tab8 eyewitnesslaw22_RunTells.bits8 (fun HT_ HW_ => ?_)
        generalize w40.drew = w41 at HO264 HO267 HO270 BK259 BK272 HB hHeld ⊢
        refine one_ (i := 0) (N := some 53) (bl 27 1) rfl rfl (one_of HT_.out (by kernel_rfl)) (by decide) (fun K hK => ?_)
        refine goes_ Try.func7 (by kernel_rfl) rfl #[] (by rfl) rfl rfl (by (try simp only [List.map_toArray, List.map_cons, List.map_nil]); first | done | rfl | (simp only [List.length_drop, List.length_take]; rfl)) ?_
        with_reducible refine (eyewitnesslaw22_awake.calls kj1  true _ A22.out).mono ?_
        rintro e w42 ⟨rfl, hb⟩
        refine ⟨_, rfl, ?_⟩
        have n0_ := Aside0.mk (Kd.R_below (tRr HO264) hb)
        have n1_ := Aside0.mk (Kd.R_below (tRr HO267) hb)
        have n2_ := Aside0.mk (Kd.R_below (tRr HO270) hb)
        have n3_ := Aside0.mk (blk_below (g := gb259) tB hb)
        have n4_ := Aside0.mk (blk_below (g := gb272) tB hb)
        have n5_ := Aside0.mk (below_step tH hb)
        clear HO264
        clear HO267
        clear HO270
        clear BK259
        clear BK272
        clear HB
        have HO264 := n0_
        have HO267 := n1_
        have HO270 := n2_
        have BK259 := n3_
        have BK272 := n4_
        have HB := n5_
        clear n0_ n1_ n2_ n3_ n4_ n5_
        (try clear hb)
        (try clear hb2)
        (try clear hk)
        (try clear hi)
        refine hK.out _ _ ⟨(blk_cell BK272.out 0).trans rfl, (blk_cell BK272.out 1).trans rfl, (blk_cell BK272.out 2).trans rfl, (blk_cell BK259.out 0).trans rfl, (blk_cell BK259.out 1).trans rfl, (blk_cell BK259.out 2).trans rfl⟩ (fun hHeld => ?_)
        clear hK K
        refine norm_ (a' := ?_) ?_ ?_
        rotate_left
        ·show Act.put _ (some 53) _ = _
         simp only [Act.put, List.setIfInBounds_toArray, List.set_cons_zero, List.set_cons_succ, i64_w, i32_w]
         rfl
        refine pX 1 54 (bl 27 3) HT_ rfl rfl kA (fun _ _ _ h => h) yA hA ?_
        refine pX 3 56 (bl 27 11) HT_ rfl rfl kA (fun _ _ _ h => h) yA hA ?_
        refine pX 5 58 (bl 27 43) HT_ rfl rfl kA (fun _ _ _ h => h) yA hA ?_
        refine pX 9 62 (bl 27 555) HT_ rfl rfl kA (fun _ _ _ h => h) yA hA ?_
        refine pX 11 64 (bl 27 2603) HT_ rfl rfl kA (fun _ _ _ h => h) yA hA ?_
        refine pT 2 55 (bl 27 2607) HT_ HW_ rfl rfl kA (fun _ _ _ h => h) yS hHeld hA ?_
        refine pT 4 57 (bl 27 2623) HT_ HW_ rfl rfl kA (fun _ _ _ h => h) yS hHeld hA ?_
        refine pT 6 59 (bl 27 2687) HT_ HW_ rfl rfl kA (fun _ _ _ h => h) yS hHeld hA ?_
        refine pT 8 61 (bl 27 2943) HT_ HW_ rfl rfl kA (fun _ _ _ h => h) yS hHeld hA ?_
        refine pT 10 63 (bl 27 3967) HT_ HW_ rfl rfl kA (fun _ _ _ h => h) yS hHeld hA ?_
        refine pT 12 65 (bl 27 8063) HT_ HW_ rfl rfl kA (fun _ _ _ h => h) yS hHeld hA ?_
        refine one_ (i := 7) (N := some 60) (bl 27 8191) rfl rfl (one_of HT_.out (by kernel_rfl)) (by decide) (fun K hK => ?_)
        refine goes_ Try.func11 (by kernel_rfl) rfl #[.agg #[.slice Ao31 t262.length co31, .slice Ao34 t265.length co34, .slice Ao35 t268.length co35], .slice A0_1 l0_1.length c0_1, .slice A0_2 l0_2.length c0_2] (by rfl) rfl rfl (by (try simp only [List.map_toArray, List.map_cons, List.map_nil]); first | done | rfl | (simp only [List.length_drop, List.length_take]; rfl)) ?_
        with_reducible refine (run_Legal.calls _ _ t262 _ _ t265 _ _ t268 _ _ l0_1 _ _ l0_2 t279 _ ?side1 ?side2 ?side3 ?side4 ?side5 ?side6 ?side7 ?side8 ?side9 ?side10 A24.out).mono ?_
        (case side1 => exact tD (Kd.R_reads' HO264.out).2.2)
        (case side2 => exact (Kd.R_reads' HO264.out).2.1)
        (case side3 => exact tD (Kd.R_reads' HO267.out).2.2)
        (case side4 => exact (Kd.R_reads' HO267.out).2.1)
        (case side5 => exact tD (Kd.R_reads' HO270.out).2.2)
        (case side6 => exact (Kd.R_reads' HO270.out).2.1)
        (case side7 => exact tC HR0_1)
        (case side8 => exact HC0_1.out)
        (case side9 => exact tC HR0_2)
        (case side10 => exact HC0_2.out)
        rintro e w43 ⟨rfl, hb⟩
        refine ⟨_, rfl, ?_⟩
        have n0_ := Aside0.mk (Kd.R_below (tRr HO264) hb)
        have n1_ := Aside0.mk (Kd.R_below (tRr HO267) hb)
        have n2_ := Aside0.mk (Kd.R_below (tRr HO270) hb)
        have n3_ := Aside0.mk (blk_below (g := gb259) tB hb)
        have n4_ := Aside0.mk (blk_below (g := gb272) tB hb)
        have n5_ := Aside0.mk (below_step tH hb)
        clear HO264
        clear HO267
        clear HO270
        clear BK259
        clear BK272
        clear HB
        have HO264 := n0_
        have HO267 := n1_
        have HO270 := n2_
        have BK259 := n3_
        have BK272 := n4_
        have HB := n5_
        clear n0_ n1_ n2_ n3_ n4_ n5_
        (try clear hb)
        (try clear hb2)
        (try clear hk)
        (try clear hi)
        refine hK.out _ _ ⟨(blk_cell BK272.out 0).trans rfl, (blk_cell BK272.out 1).trans rfl, (blk_cell BK272.out 2).trans rfl, (blk_cell BK259.out 0).trans rfl, (blk_cell BK259.out 1).trans rfl, (blk_cell BK259.out 2).trans rfl⟩ (fun hHeld => ?_)
        clear hK K
        refine norm_ (a' := ?_) ?_ ?_
        rotate_left
        ·show Act.put _ (some 60) _ = _
         simp only [Act.put, List.setIfInBounds_toArray, List.set_cons_zero, List.set_cons_succ, i64_w, i32_w]
         rfl
        refine one_ (i := 13) (N := some 66) (bl 27 16383) rfl rfl (one_of HT_.out (by kernel_rfl)) (by decide) (fun K hK => ?_)
        refine goes_ Try.func12 (by kernel_rfl) rfl #[.agg #[.slice Ao31 t262.length co31, .slice Ao34 t265.length co34, .slice Ao35 t268.length co35], .slice A0_1 l0_1.length c0_1, .slice A0_2 l0_2.length c0_2] (by rfl) rfl rfl (by (try simp only [List.map_toArray, List.map_cons, List.map_nil]); first | done | rfl | (simp only [List.length_drop, List.length_take]; rfl)) ?_
        with_reducible refine (eyewitnessref22_Legal.calls kj1 _ _ t262 _ _ t265 _ _ t268 _ _ l0_1 _ _ l0_2 t280 _ ?side1 ?side2 ?side3 ?side4 ?side5 ?side6 ?side7 ?side8 ?side9 ?side10 A25.out).mono ?_
        (case side1 => exact tD (Kd.R_reads' HO264.out).2.2)
        (case side2 => exact (Kd.R_reads' HO264.out).2.1)
        (case side3 => exact tD (Kd.R_reads' HO267.out).2.2)
        (case side4 => exact (Kd.R_reads' HO267.out).2.1)
        (case side5 => exact tD (Kd.R_reads' HO270.out).2.2)
        (case side6 => exact (Kd.R_reads' HO270.out).2.1)
        (case side7 => exact tC HR0_1)
        (case side8 => exact HC0_1.out)
        (case side9 => exact tC HR0_2)
        (case side10 => exact HC0_2.out)
        rintro e w44 ⟨rfl, hb⟩
        refine ⟨_, rfl, ?_⟩
        have n0_ := Aside0.mk (Kd.R_below (tRr HO264) hb)
        have n1_ := Aside0.mk (Kd.R_below (tRr HO267) hb)
        have n2_ := Aside0.mk (Kd.R_below (tRr HO270) hb)
        have n3_ := Aside0.mk (blk_below (g := gb259) tB hb)
        have n4_ := Aside0.mk (blk_below (g := gb272) tB hb)
        have n5_ := Aside0.mk (below_step tH hb)
        clear HO264
        clear HO267
        clear HO270
        clear BK259
        clear BK272
        clear HB
        have HO264 := n0_
        have HO267 := n1_
        have HO270 := n2_
        have BK259 := n3_
        have BK272 := n4_
        have HB := n5_
        clear n0_ n1_ n2_ n3_ n4_ n5_
        (try clear hb)
        (try clear hb2)
        (try clear hk)
        (try clear hi)
        refine hK.out _ _ ⟨(blk_cell BK272.out 0).trans rfl, (blk_cell BK272.out 1).trans rfl, (blk_cell BK272.out 2).trans rfl, (blk_cell BK259.out 0).trans rfl, (blk_cell BK259.out 1).trans rfl, (blk_cell BK259.out 2).trans rfl⟩ (fun hHeld => ?_)
        clear hK K
        refine norm_ (a' := ?_) ?_ ?_
        rotate_left
        ·show Act.put _ (some 66) _ = _
         simp only [Act.put, List.setIfInBounds_toArray, List.set_cons_zero, List.set_cons_succ, i64_w, i32_w]
         rfl
        refine pX 14 67 (bl 27 32767) HT_ rfl rfl kA (fun _ _ _ h => h) yA hA ?_
        refine pX 15 68 (bl 27 65535) HT_ rfl rfl kA (fun _ _ _ h => h) yA hA ?_
        refine pX 16 69 (bl 27 131071) HT_ rfl rfl kA (fun _ _ _ h => h) yA hA ?_
        refine pX 17 70 (bl 27 262143) HT_ rfl rfl kA (fun _ _ _ h => h) yA hA ?_
        refine pX 18 71 (bl 27 524287) HT_ rfl rfl kA (fun _ _ _ h => h) yA hA ?_
        refine pX 19 72 (bl 27 1048575) HT_ rfl rfl kA (fun _ _ _ h => h) yA hA ?_
        refine pX 20 73 (bl 27 2097151) HT_ rfl rfl kA (fun _ _ _ h => h) yA hA ?_
        refine pX 21 74 (bl 27 4194303) HT_ rfl rfl kA (fun _ _ _ h => h) yA hA ?_
        refine pX 22 75 (bl 27 8388607) HT_ rfl rfl kA (fun _ _ _ h => h) yA hA ?_
        refine pX 23 76 (bl 27 16777215) HT_ rfl rfl kA (fun _ _ _ h => h) yA hA ?_
        refine pX 24 77 (bl 27 33554431) HT_ rfl rfl kA (fun _ _ _ h => h) yA hA ?_
        refine pX 25 78 (bl 27 67108863) HT_ rfl rfl kA (fun _ _ _ h => h) yA hA ?_
        refine pX 26 2 (bl 27 134217727) HT_ rfl rfl kA (fun _ _ _ h => h) yA hA ?_
        refine done_ (done_of HT_.out (by kernel_rfl)) ?_
        try go_wp2
        go_ret
        exact ⟨by first | rfl | (simp [errW_none, errW_some] <;> rfl) | (simp [*, errW_none, errW_some] <;> rfl), tH⟩
       ·rw [if_neg c27] at H
        have c27b0 : (t274 == t276) = false := beq_eq_false_iff_ne.mpr c27
        have c27b1 : (t274 != t276) = true := bne_iff_ne.mpr c27
        obtain rfl := Option.some.inj H
        have hcz45_0 : wc.cell? ⟨gb259, 0, none⟩ = some (.slice A0_0 l0_0.length c0_0) := (blk_cell BK259.out 0).trans rfl
        have hcz45_1 : wc.cell? ⟨gb259, 1, none⟩ = some (.slice A0_1 l0_1.length c0_1) := (blk_cell BK259.out 1).trans rfl
        have hcz45_2 : wc.cell? ⟨gb259, 2, none⟩ = some (.slice A0_2 l0_2.length c0_2) := (blk_cell BK259.out 2).trans rfl
        have hfz45_0 := blk_frozen BK259.out 0
        have hfz45_1 := blk_frozen BK259.out 1
        have hfz45_2 := blk_frozen BK259.out 2
        try go_wp2_with (first | ((with_reducible refine gate_callee (f := 8) rfl ?_); refine goesL_ (some 29) rfl rfl Try.func8 (by kernel_rfl) rfl #[.slice A0_0 l0_0.length c0_0] rfl (by (try simp only [List.map_toArray, List.map_cons, List.map_nil]); first | done | rfl | (simp only [List.length_drop, List.length_take]; rfl)) ?_; (with_reducible refine (eyewitnessref11_Of.calls kj1 _ _ l0_0 t262 t265 t268 true _ ?side1 ?side2 A18.out).mono ?_); (case side1 => exact tC HR0_0); (case side2 => exact HC0_0.out); rintro e w46 ⟨v263, v266, v269, rfl, ho0, ho1, ho2, hb⟩; refine ⟨_, rfl, ?_⟩; have n0_ := Aside0.mk (Kd.R_lower ho0 (below_size tH)); have n1_ := Aside0.mk (Kd.R_lower ho1 (below_size tH)); have n2_ := Aside0.mk (Kd.R_lower ho2 (below_size tH)); have n3_ := Aside0.mk (blk_below (g := gb259) tB hb); have n4_ := Aside0.mk (below_step tH hb); clear BK259; clear HB; have HO264 := n0_; have HO267 := n1_; have HO270 := n2_; have BK259 := n3_; have HB := n4_; clear n0_ n1_ n2_ n3_ n4_; (try clear hb); (try clear hb2); (try clear hk); (try clear hi); (try clear ho0); (try clear ho1); (try clear ho2)) | ((with_reducible refine gate_dst (N := 3) rfl ?_); (try (refine gate_guard (by rfl) ?_; dsimp only)); refine box_event ?hg (N := 3) ?hd (cs := #[.slice none 0 0, .slice none 0 0, .slice none 0 0]) (t := 31) ?hr ?_; (case hd => rfl); (case hg => rfl); (case hr => first | (go_simp; done) | (go_simp; rfl)); intro gb272 hg w47 hbox hb; have n0_ := Aside0.mk (Kd.R_below (tRr HO264) hb); have n1_ := Aside0.mk (Kd.R_below (tRr HO267) hb); have n2_ := Aside0.mk (Kd.R_below (tRr HO270) hb); have n3_ := Aside0.mk (blk_below (g := gb259) tB hb); have n4_ := Aside0.mk (below_step tH hb); have n5_ := Aside0.mk (hbox); have n6_ := Aside0.mk ((by rw [hg]; exact (below_size tH) : w.heap.size ≤ gb272)); have n7_ := Aside0.mk ((by rw [hg]; exact (below_size tH) : w.heap.size ≤ gb272)); have n8_ := Aside0.mk ((by rw [hg]; exact Nat.ne_of_lt (blk_lt (g := gb259) tB) : gb259 ≠ gb272)); have n9_ := Aside0.mk ((by rw [hg]; exact Nat.ne_of_gt (blk_lt (g := gb259) tB) : gb272 ≠ gb259)); clear HO264; clear HO267; clear HO270; clear BK259; clear HB; have HO264 := n0_; have HO267 := n1_; have HO270 := n2_; have BK259 := n3_; have HB := n4_; have BK272 := n5_; have GW272 := n6_; have GE272 := n7_; have NB259_272 := n8_; have NB272_259 := n9_; clear n0_ n1_ n2_ n3_ n4_ n5_ n6_ n7_ n8_ n9_; clear hb hbox hg; obtain ⟨Ao48, co48, eo48⟩ := Kd.R_slice HO264.out; subst eo48; have hnb49 := NB272_259.out; have hnc49 := NB259_272.out; have hcz50_0 : w47.cell? ⟨gb272, 0, none⟩ = some (.slice none 0 0) := (blk_cell BK272.out 0).trans rfl; have hcz50_1 : w47.cell? ⟨gb272, 1, none⟩ = some (.slice none 0 0) := (blk_cell BK272.out 1).trans rfl; have hcz50_2 : w47.cell? ⟨gb272, 2, none⟩ = some (.slice none 0 0) := (blk_cell BK272.out 2).trans rfl; have hfz50_0 := blk_frozen BK272.out 0; have hfz50_1 := blk_frozen BK272.out 1; have hfz50_2 := blk_frozen BK272.out 2; obtain ⟨Ao51, co51, eo51⟩ := Kd.R_slice HO267.out; subst eo51; obtain ⟨Ao52, co52, eo52⟩ := Kd.R_slice HO270.out; subst eo52; have hcz53_0 : w47.cell? ⟨gb259, 0, none⟩ = some (.slice A0_0 l0_0.length c0_0) := (blk_cell BK259.out 0).trans rfl; have hcz53_1 : w47.cell? ⟨gb259, 1, none⟩ = some (.slice A0_1 l0_1.length c0_1) := (blk_cell BK259.out 1).trans rfl; have hcz53_2 : w47.cell? ⟨gb259, 2, none⟩ = some (.slice A0_2 l0_2.length c0_2) := (blk_cell BK259.out 2).trans rfl; have hfz53_0 := blk_frozen BK259.out 0; have hfz53_1 := blk_frozen BK259.out 1; have hfz53_2 := blk_frozen BK259.out 2) | ((with_reducible refine gate_callee (f := 9) rfl ?_); refine goesL_ (some 41) rfl rfl Try.func9 (by kernel_rfl) rfl #[.agg #[.slice Ao48 t262.length co48, .slice Ao51 t265.length co51, .slice Ao52 t268.length co52], .slice A0_1 l0_1.length c0_1, .slice A0_2 l0_2.length c0_2] rfl (by (try simp only [List.map_toArray, List.map_cons, List.map_nil]); first | done | rfl | (simp only [List.length_drop, List.length_take]; rfl)) ?_; (with_reducible refine (run_Wrong.calls _ _ t262 _ _ t265 _ _ t268 _ _ l0_1 _ _ l0_2 t274 t275 _ ?side1 ?side2 ?side3 ?side4 ?side5 ?side6 ?side7 ?side8 ?side9 ?side10 A20.out).mono ?_); (case side1 => refine (Kd.R_reads' (e := 9) (base := w.heap.size) (ok := fun k_ => True) (n := t262.length) (c := co48) ?_).2.2; exact (by (with_reducible repeat (first | apply Kd.R_alloc | apply Kd.R_drewN | apply Kd.R_drew)); exact (Kd.R_mono (Kd.R_far (p := ⟨gb272, 2, none⟩) (Kd.R_far (p := ⟨gb272, 1, none⟩) (Kd.R_far (p := ⟨gb272, 0, none⟩) (Kd.R_types HO264.out BK272.out (by decide)) (fun _ hk => hk.2) (.slice Ao48 t262.length co48)) (fun _ hk => hk.2) (.slice Ao51 t265.length co51)) (fun _ hk => hk.2) (.slice Ao52 t268.length co52)) (fun _ h_ => h_.1)))); (case side2 => exact (Kd.R_reads' HO264.out).2.1); (case side3 => refine (Kd.R_reads' (e := 40) (base := w.heap.size) (ok := fun k_ => True) (n := t265.length) (c := co51) ?_).2.2; exact (by (with_reducible repeat (first | apply Kd.R_alloc | apply Kd.R_drewN | apply Kd.R_drew)); exact (Kd.R_mono (Kd.R_far (p := ⟨gb272, 2, none⟩) (Kd.R_far (p := ⟨gb272, 1, none⟩) (Kd.R_far (p := ⟨gb272, 0, none⟩) (Kd.R_types HO267.out BK272.out (by decide)) (fun _ hk => hk.2) (.slice Ao48 t262.length co48)) (fun _ hk => hk.2) (.slice Ao51 t265.length co51)) (fun _ hk => hk.2) (.slice Ao52 t268.length co52)) (fun _ h_ => h_.1)))); (case side4 => exact (Kd.R_reads' HO267.out).2.1); (case side5 => refine (Kd.R_reads' (e := 3) (base := w.heap.size) (ok := fun k_ => True) (n := t268.length) (c := co52) ?_).2.2; exact (by (with_reducible repeat (first | apply Kd.R_alloc | apply Kd.R_drewN | apply Kd.R_drew)); exact (Kd.R_mono (Kd.R_far (p := ⟨gb272, 2, none⟩) (Kd.R_far (p := ⟨gb272, 1, none⟩) (Kd.R_far (p := ⟨gb272, 0, none⟩) (Kd.R_types HO270.out BK272.out (by decide)) (fun _ hk => hk.2) (.slice Ao48 t262.length co48)) (fun _ hk => hk.2) (.slice Ao51 t265.length co51)) (fun _ hk => hk.2) (.slice Ao52 t268.length co52)) (fun _ h_ => h_.1)))); (case side6 => exact (Kd.R_reads' HO270.out).2.1); (case side7 => exact Kd.C_below HR0_1.out tH); (case side8 => exact HC0_1.out); (case side9 => exact Kd.C_below HR0_2.out tH); (case side10 => exact HC0_2.out); rintro e w54 ⟨rfl, hb⟩; refine ⟨_, rfl, ?_⟩; have n0_ := Aside0.mk (Kd.R_below (by (with_reducible repeat (first | apply Kd.R_alloc | apply Kd.R_drewN | apply Kd.R_drew)); exact (Kd.R_mono (Kd.R_far (p := ⟨gb272, 2, none⟩) (Kd.R_far (p := ⟨gb272, 1, none⟩) (Kd.R_far (p := ⟨gb272, 0, none⟩) (Kd.R_types HO264.out BK272.out (by decide)) (fun _ hk => hk.2) (.slice Ao48 t262.length co48)) (fun _ hk => hk.2) (.slice Ao51 t265.length co51)) (fun _ hk => hk.2) (.slice Ao52 t268.length co52)) (fun _ h_ => h_.1))) hb); have n1_ := Aside0.mk (Kd.R_below (by (with_reducible repeat (first | apply Kd.R_alloc | apply Kd.R_drewN | apply Kd.R_drew)); exact (Kd.R_mono (Kd.R_far (p := ⟨gb272, 2, none⟩) (Kd.R_far (p := ⟨gb272, 1, none⟩) (Kd.R_far (p := ⟨gb272, 0, none⟩) (Kd.R_types HO267.out BK272.out (by decide)) (fun _ hk => hk.2) (.slice Ao48 t262.length co48)) (fun _ hk => hk.2) (.slice Ao51 t265.length co51)) (fun _ hk => hk.2) (.slice Ao52 t268.length co52)) (fun _ h_ => h_.1))) hb); have n2_ := Aside0.mk (Kd.R_below (by (with_reducible repeat (first | apply Kd.R_alloc | apply Kd.R_drewN | apply Kd.R_drew)); exact (Kd.R_mono (Kd.R_far (p := ⟨gb272, 2, none⟩) (Kd.R_far (p := ⟨gb272, 1, none⟩) (Kd.R_far (p := ⟨gb272, 0, none⟩) (Kd.R_types HO270.out BK272.out (by decide)) (fun _ hk => hk.2) (.slice Ao48 t262.length co48)) (fun _ hk => hk.2) (.slice Ao51 t265.length co51)) (fun _ hk => hk.2) (.slice Ao52 t268.length co52)) (fun _ h_ => h_.1))) hb); have n3_ := Aside0.mk (blk_below (g := gb259) (o := .cells #[.slice A0_0 l0_0.length c0_0, .slice A0_1 l0_1.length c0_1, .slice A0_2 l0_2.length c0_2] 25 (0, 0)) (by (with_reducible repeat (first | refine blk_drewN ?_ _ | refine blk_drew ?_ | refine blk_alloc ?_ _)); refine blk_far ?_ NB259_272.out _; (with_reducible repeat (first | refine blk_drewN ?_ _ | refine blk_drew ?_ | refine blk_alloc ?_ _)); refine blk_far ?_ NB259_272.out _; (with_reducible repeat (first | refine blk_drewN ?_ _ | refine blk_drew ?_ | refine blk_alloc ?_ _)); refine blk_far ?_ NB259_272.out _; (with_reducible repeat (first | refine blk_drewN ?_ _ | refine blk_drew ?_ | refine blk_alloc ?_ _)); exact BK259.out) hb); have n4_ := Aside0.mk (blk_below (g := gb272) (o := .cells #[.slice Ao48 t262.length co48, .slice Ao51 t265.length co51, .slice Ao52 t268.length co52] 31 (0, 0)) (by (with_reducible repeat (first | refine blk_drewN ?_ _ | refine blk_drew ?_ | refine blk_alloc ?_ _)); refine blk_put (cs := #[.slice Ao48 t262.length co48, .slice Ao51 t265.length co51, .slice none 0 0]) ?_ 2 _ rfl; (with_reducible repeat (first | refine blk_drewN ?_ _ | refine blk_drew ?_ | refine blk_alloc ?_ _)); refine blk_put (cs := #[.slice Ao48 t262.length co48, .slice none 0 0, .slice none 0 0]) ?_ 1 _ rfl; (with_reducible repeat (first | refine blk_drewN ?_ _ | refine blk_drew ?_ | refine blk_alloc ?_ _)); refine blk_put (cs := #[.slice none 0 0, .slice none 0 0, .slice none 0 0]) ?_ 0 _ rfl; (with_reducible repeat (first | refine blk_drewN ?_ _ | refine blk_drew ?_ | refine blk_alloc ?_ _)); exact BK272.out) hb); have n5_ := Aside0.mk (below_step tH hb); clear HO264; clear HO267; clear HO270; clear BK259; clear BK272; clear HB; have HO264 := n0_; have HO267 := n1_; have HO270 := n2_; have BK259 := n3_; have BK272 := n4_; have HB := n5_; clear n0_ n1_ n2_ n3_ n4_ n5_; (try clear hb); (try clear hb2); (try clear hk); (try clear hi); have hcz55_0 : w54.cell? ⟨gb272, 0, none⟩ = some (.slice Ao48 t262.length co48) := (blk_cell BK272.out 0).trans rfl; have hcz55_1 : w54.cell? ⟨gb272, 1, none⟩ = some (.slice Ao51 t265.length co51) := (blk_cell BK272.out 1).trans rfl; have hcz55_2 : w54.cell? ⟨gb272, 2, none⟩ = some (.slice Ao52 t268.length co52) := (blk_cell BK272.out 2).trans rfl; have hfz55_0 := blk_frozen BK272.out 0; have hfz55_1 := blk_frozen BK272.out 1; have hfz55_2 := blk_frozen BK272.out 2; have hcz56_0 : w54.cell? ⟨gb259, 0, none⟩ = some (.slice A0_0 l0_0.length c0_0) := (blk_cell BK259.out 0).trans rfl; have hcz56_1 : w54.cell? ⟨gb259, 1, none⟩ = some (.slice A0_1 l0_1.length c0_1) := (blk_cell BK259.out 1).trans rfl; have hcz56_2 : w54.cell? ⟨gb259, 2, none⟩ = some (.slice A0_2 l0_2.length c0_2) := (blk_cell BK259.out 2).trans rfl; have hfz56_0 := blk_frozen BK259.out 0; have hfz56_1 := blk_frozen BK259.out 1; have hfz56_2 := blk_frozen BK259.out 2) | ((with_reducible refine gate_callee (f := 10) rfl ?_); refine goesL_ (some 50) rfl rfl Try.func10 (by kernel_rfl) rfl #[.agg #[.slice Ao48 t262.length co48, .slice Ao51 t265.length co51, .slice Ao52 t268.length co52], .slice A0_1 l0_1.length c0_1, .slice A0_2 l0_2.length c0_2] rfl (by (try simp only [List.map_toArray, List.map_cons, List.map_nil]); first | done | rfl | (simp only [List.length_drop, List.length_take]; rfl)) ?_; (with_reducible refine (eyewitnessref22_Wrong.calls kj1 _ _ t262 _ _ t265 _ _ t268 _ _ l0_1 _ _ l0_2 t276 t277 _ ?side1 ?side2 ?side3 ?side4 ?side5 ?side6 ?side7 ?side8 ?side9 ?side10 A21.out).mono ?_); (case side1 => exact tD (Kd.R_reads' HO264.out).2.2); (case side2 => exact (Kd.R_reads' HO264.out).2.1); (case side3 => exact tD (Kd.R_reads' HO267.out).2.2); (case side4 => exact (Kd.R_reads' HO267.out).2.1); (case side5 => exact tD (Kd.R_reads' HO270.out).2.2); (case side6 => exact (Kd.R_reads' HO270.out).2.1); (case side7 => exact tC HR0_1); (case side8 => exact HC0_1.out); (case side9 => exact tC HR0_2); (case side10 => exact HC0_2.out); rintro e w57 ⟨rfl, hb⟩; refine ⟨_, rfl, ?_⟩; have n0_ := Aside0.mk (Kd.R_below (tRr HO264) hb); have n1_ := Aside0.mk (Kd.R_below (tRr HO267) hb); have n2_ := Aside0.mk (Kd.R_below (tRr HO270) hb); have n3_ := Aside0.mk (blk_below (g := gb259) tB hb); have n4_ := Aside0.mk (blk_below (g := gb272) tB hb); have n5_ := Aside0.mk (below_step tH hb); clear HO264; clear HO267; clear HO270; clear BK259; clear BK272; clear HB; have HO264 := n0_; have HO267 := n1_; have HO270 := n2_; have BK259 := n3_; have BK272 := n4_; have HB := n5_; clear n0_ n1_ n2_ n3_ n4_ n5_; (try clear hb); (try clear hb2); (try clear hk); (try clear hi)))
        have n0_ := Aside0.mk (Kd.R_drew HO264.out)
        have n1_ := Aside0.mk (Kd.R_drew HO267.out)
        have n2_ := Aside0.mk (Kd.R_drew HO270.out)
        have n3_ := Aside0.mk (blk_drew BK259.out)
        have n4_ := Aside0.mk (blk_drew BK272.out)
        have n5_ := Aside0.mk (below_drew1 HB.out)
        clear HO264
        clear HO267
        clear HO270
        clear BK259
        clear BK272
        clear HB
        have HO264 := n0_
        have HO267 := n1_
        have HO270 := n2_
        have BK259 := n3_
        have BK272 := n4_
        have HB := n5_
        clear n0_ n1_ n2_ n3_ n4_ n5_
        refine start_ (n := 27) (S := fun w' => w'.cell? ⟨gb272, 0, none⟩ = some (.slice Ao48 t262.length co48) ∧ w'.cell? ⟨gb272, 1, none⟩ = some (.slice Ao51 t265.length co51) ∧ w'.cell? ⟨gb272, 2, none⟩ = some (.slice Ao52 t268.length co52) ∧ w'.cell? ⟨gb259, 0, none⟩ = some (.slice A0_0 l0_0.length c0_0) ∧ w'.cell? ⟨gb259, 1, none⟩ = some (.slice A0_1 l0_1.length c0_1) ∧ w'.cell? ⟨gb259, 2, none⟩ = some (.slice A0_2 l0_2.length c0_2)) (ds := []) (bl 27 0) (by kernel_rfl) rfl rfl ⟨(blk_cell BK272.out 0).trans rfl, (blk_cell BK272.out 1).trans rfl, (blk_cell BK272.out 2).trans rfl, (blk_cell BK259.out 0).trans rfl, (blk_cell BK259.out 1).trans rfl, (blk_cell BK259.out 2).trans rfl⟩ (fun hHeld => ?_); refine with_tabW eyewitnesslaw22_RunTells.tab8 eyewitnesslaw22_RunTells.bits8 (fun HT_ HW_ => ?_)
        generalize w57.drew = w58 at HO264 HO267 HO270 BK259 BK272 HB hHeld ⊢
        refine one_ (i := 0) (N := some 53) (bl 27 1) rfl rfl (one_of HT_.out (by kernel_rfl)) (by decide) (fun K hK => ?_)
        refine goes_ Try.func7 (by kernel_rfl) rfl #[] (by rfl) rfl rfl (by (try simp only [List.map_toArray, List.map_cons, List.map_nil]); first | done | rfl | (simp only [List.length_drop, List.length_take]; rfl)) ?_
        with_reducible refine (eyewitnesslaw22_awake.calls kj1  true _ A22.out).mono ?_
        rintro e w59 ⟨rfl, hb⟩
        refine ⟨_, rfl, ?_⟩
        have n0_ := Aside0.mk (Kd.R_below (tRr HO264) hb)
        have n1_ := Aside0.mk (Kd.R_below (tRr HO267) hb)
        have n2_ := Aside0.mk (Kd.R_below (tRr HO270) hb)
        have n3_ := Aside0.mk (blk_below (g := gb259) tB hb)
        have n4_ := Aside0.mk (blk_below (g := gb272) tB hb)
        have n5_ := Aside0.mk (below_step tH hb)
        clear HO264
        clear HO267
        clear HO270
        clear BK259
        clear BK272
        clear HB
        have HO264 := n0_
        have HO267 := n1_
        have HO270 := n2_
        have BK259 := n3_
        have BK272 := n4_
        have HB := n5_
        clear n0_ n1_ n2_ n3_ n4_ n5_
        (try clear hb)
        (try clear hb2)
        (try clear hk)
        (try clear hi)
        refine hK.out _ _ ⟨(blk_cell BK272.out 0).trans rfl, (blk_cell BK272.out 1).trans rfl, (blk_cell BK272.out 2).trans rfl, (blk_cell BK259.out 0).trans rfl, (blk_cell BK259.out 1).trans rfl, (blk_cell BK259.out 2).trans rfl⟩ (fun hHeld => ?_)
        clear hK K
        refine norm_ (a' := ?_) ?_ ?_
        rotate_left
        ·show Act.put _ (some 53) _ = _
         simp only [Act.put, List.setIfInBounds_toArray, List.set_cons_zero, List.set_cons_succ, i64_w, i32_w]
         rfl
        refine pX 1 54 (bl 27 3) HT_ rfl rfl kA (fun _ _ _ h => h) yA hA ?_
        refine pX 3 56 (bl 27 11) HT_ rfl rfl kA (fun _ _ _ h => h) yA hA ?_
        refine pX 5 58 (bl 27 43) HT_ rfl rfl kA (fun _ _ _ h => h) yA hA ?_
        refine pX 9 62 (bl 27 555) HT_ rfl rfl kA (fun _ _ _ h => h) yA hA ?_
        refine pX 11 64 (bl 27 2603) HT_ rfl rfl kA (fun _ _ _ h => h) yA hA ?_
        refine pT 2 55 (bl 27 2607) HT_ HW_ rfl rfl kA (fun _ _ _ h => h) yS hHeld hA ?_
        refine pT 4 57 (bl 27 2623) HT_ HW_ rfl rfl kA (fun _ _ _ h => h) yS hHeld hA ?_
        refine pT 6 59 (bl 27 2687) HT_ HW_ rfl rfl kA (fun _ _ _ h => h) yS hHeld hA ?_
        refine pT 8 61 (bl 27 2943) HT_ HW_ rfl rfl kA (fun _ _ _ h => h) yS hHeld hA ?_
        refine pT 10 63 (bl 27 3967) HT_ HW_ rfl rfl kA (fun _ _ _ h => h) yS hHeld hA ?_
        refine pT 12 65 (bl 27 8063) HT_ HW_ rfl rfl kA (fun _ _ _ h => h) yS hHeld hA ?_
        refine one_ (i := 7) (N := some 60) (bl 27 8191) rfl rfl (one_of HT_.out (by kernel_rfl)) (by decide) (fun K hK => ?_)
        refine goes_ Try.func11 (by kernel_rfl) rfl #[.agg #[.slice Ao48 t262.length co48, .slice Ao51 t265.length co51, .slice Ao52 t268.length co52], .slice A0_1 l0_1.length c0_1, .slice A0_2 l0_2.length c0_2] (by rfl) rfl rfl (by (try simp only [List.map_toArray, List.map_cons, List.map_nil]); first | done | rfl | (simp only [List.length_drop, List.length_take]; rfl)) ?_
        with_reducible refine (run_Legal.calls _ _ t262 _ _ t265 _ _ t268 _ _ l0_1 _ _ l0_2 t279 _ ?side1 ?side2 ?side3 ?side4 ?side5 ?side6 ?side7 ?side8 ?side9 ?side10 A24.out).mono ?_
        (case side1 => exact tD (Kd.R_reads' HO264.out).2.2)
        (case side2 => exact (Kd.R_reads' HO264.out).2.1)
        (case side3 => exact tD (Kd.R_reads' HO267.out).2.2)
        (case side4 => exact (Kd.R_reads' HO267.out).2.1)
        (case side5 => exact tD (Kd.R_reads' HO270.out).2.2)
        (case side6 => exact (Kd.R_reads' HO270.out).2.1)
        (case side7 => exact tC HR0_1)
        (case side8 => exact HC0_1.out)
        (case side9 => exact tC HR0_2)
        (case side10 => exact HC0_2.out)
        rintro e w60 ⟨rfl, hb⟩
        refine ⟨_, rfl, ?_⟩
        have n0_ := Aside0.mk (Kd.R_below (tRr HO264) hb)
        have n1_ := Aside0.mk (Kd.R_below (tRr HO267) hb)
        have n2_ := Aside0.mk (Kd.R_below (tRr HO270) hb)
        have n3_ := Aside0.mk (blk_below (g := gb259) tB hb)
        have n4_ := Aside0.mk (blk_below (g := gb272) tB hb)
        have n5_ := Aside0.mk (below_step tH hb)
        clear HO264
        clear HO267
        clear HO270
        clear BK259
        clear BK272
        clear HB
        have HO264 := n0_
        have HO267 := n1_
        have HO270 := n2_
        have BK259 := n3_
        have BK272 := n4_
        have HB := n5_
        clear n0_ n1_ n2_ n3_ n4_ n5_
        (try clear hb)
        (try clear hb2)
        (try clear hk)
        (try clear hi)
        refine hK.out _ _ ⟨(blk_cell BK272.out 0).trans rfl, (blk_cell BK272.out 1).trans rfl, (blk_cell BK272.out 2).trans rfl, (blk_cell BK259.out 0).trans rfl, (blk_cell BK259.out 1).trans rfl, (blk_cell BK259.out 2).trans rfl⟩ (fun hHeld => ?_)
        clear hK K
        refine norm_ (a' := ?_) ?_ ?_
        rotate_left
        ·show Act.put _ (some 60) _ = _
         simp only [Act.put, List.setIfInBounds_toArray, List.set_cons_zero, List.set_cons_succ, i64_w, i32_w]
         rfl
        refine one_ (i := 13) (N := some 66) (bl 27 16383) rfl rfl (one_of HT_.out (by kernel_rfl)) (by decide) (fun K hK => ?_)
        refine goes_ Try.func12 (by kernel_rfl) rfl #[.agg #[.slice Ao48 t262.length co48, .slice Ao51 t265.length co51, .slice Ao52 t268.length co52], .slice A0_1 l0_1.length c0_1, .slice A0_2 l0_2.length c0_2] (by rfl) rfl rfl (by (try simp only [List.map_toArray, List.map_cons, List.map_nil]); first | done | rfl | (simp only [List.length_drop, List.length_take]; rfl)) ?_
        with_reducible refine (eyewitnessref22_Legal.calls kj1 _ _ t262 _ _ t265 _ _ t268 _ _ l0_1 _ _ l0_2 t280 _ ?side1 ?side2 ?side3 ?side4 ?side5 ?side6 ?side7 ?side8 ?side9 ?side10 A25.out).mono ?_
        (case side1 => exact tD (Kd.R_reads' HO264.out).2.2)
        (case side2 => exact (Kd.R_reads' HO264.out).2.1)
        (case side3 => exact tD (Kd.R_reads' HO267.out).2.2)
        (case side4 => exact (Kd.R_reads' HO267.out).2.1)
        (case side5 => exact tD (Kd.R_reads' HO270.out).2.2)
        (case side6 => exact (Kd.R_reads' HO270.out).2.1)
        (case side7 => exact tC HR0_1)
        (case side8 => exact HC0_1.out)
        (case side9 => exact tC HR0_2)
        (case side10 => exact HC0_2.out)
        rintro e w61 ⟨rfl, hb⟩
        refine ⟨_, rfl, ?_⟩
        have n0_ := Aside0.mk (Kd.R_below (tRr HO264) hb)
        have n1_ := Aside0.mk (Kd.R_below (tRr HO267) hb)
        have n2_ := Aside0.mk (Kd.R_below (tRr HO270) hb)
        have n3_ := Aside0.mk (blk_below (g := gb259) tB hb)
        have n4_ := Aside0.mk (blk_below (g := gb272) tB hb)
        have n5_ := Aside0.mk (below_step tH hb)
        clear HO264
        clear HO267
        clear HO270
        clear BK259
        clear BK272
        clear HB
        have HO264 := n0_
        have HO267 := n1_
        have HO270 := n2_
        have BK259 := n3_
        have BK272 := n4_
        have HB := n5_
        clear n0_ n1_ n2_ n3_ n4_ n5_
        (try clear hb)
        (try clear hb2)
        (try clear hk)
        (try clear hi)
        refine hK.out _ _ ⟨(blk_cell BK272.out 0).trans rfl, (blk_cell BK272.out 1).trans rfl, (blk_cell BK272.out 2).trans rfl, (blk_cell BK259.out 0).trans rfl, (blk_cell BK259.out 1).trans rfl, (blk_cell BK259.out 2).trans rfl⟩ (fun hHeld => ?_)
        clear hK K
        refine norm_ (a' := ?_) ?_ ?_
        rotate_left
        ·show Act.put _ (some 66) _ = _
         simp only [Act.put, List.setIfInBounds_toArray, List.set_cons_zero, List.set_cons_succ, i64_w, i32_w]
         rfl
        refine pX 14 67 (bl 27 32767) HT_ rfl rfl kA (fun _ _ _ h => h) yA hA ?_
        refine pX 15 68 (bl 27 65535) HT_ rfl rfl kA (fun _ _ _ h => h) yA hA ?_
        refine pX 16 69 (bl 27 131071) HT_ rfl rfl kA (fun _ _ _ h => h) yA hA ?_
        refine pX 17 70 (bl 27 262143) HT_ rfl rfl kA (fun _ _ _ h => h) yA hA ?_
        refine pX 18 71 (bl 27 524287) HT_ rfl rfl kA (fun _ _ _ h => h) yA hA ?_
        refine pX 19 72 (bl 27 1048575) HT_ rfl rfl kA (fun _ _ _ h => h) yA hA ?_
        refine pX 20 73 (bl 27 2097151) HT_ rfl rfl kA (fun _ _ _ h => h) yA hA ?_
        refine pX 21 74 (bl 27 4194303) HT_ rfl rfl kA (fun _ _ _ h => h) yA hA ?_
        refine pU 22 75 (bl 27 8388607) HT_ rfl rfl kA (fun _ _ _ h => h) (by rfl) hA ?_
        refine pU 23 76 (bl 27 16777215) HT_ rfl rfl kA (fun _ _ _ h => h) (by rfl) hA ?_
        refine pU 24 77 (bl 27 33554431) HT_ rfl rfl kA (fun _ _ _ h => h) (by rfl) hA ?_
        refine pX 25 78 (bl 27 67108863) HT_ rfl rfl kA (fun _ _ _ h => h) yA hA ?_
        refine pX 26 2 (bl 27 134217727) HT_ rfl rfl kA (fun _ _ _ h => h) yA hA ?_
        refine done_ (done_of HT_.out (by kernel_rfl)) ?_
        try go_wp2
        go_ret
        exact ⟨by first | rfl | (simp [errW_none, errW_some] <;> rfl) | (simp [*, errW_none, errW_some] <;> rfl), tH⟩
      ·rw [if_neg c26] at H
       have c26b0 : (t279 == t280) = false := by simpa using c26
       (try (have c26b1 : decide (t279 = t280) = false := by simpa using c26))
       (try (have c26b2 : (t279 == t280) = false := by simpa using c26))
       (try (have c26b3 : ¬ (t279 = t280) := by simpa using c26))
       clear c26
       obtain rfl := Option.some.inj H
       have hcz62_0 : wc.cell? ⟨gb259, 0, none⟩ = some (.slice A0_0 l0_0.length c0_0) := (blk_cell BK259.out 0).trans rfl
       have hcz62_1 : wc.cell? ⟨gb259, 1, none⟩ = some (.slice A0_1 l0_1.length c0_1) := (blk_cell BK259.out 1).trans rfl
       have hcz62_2 : wc.cell? ⟨gb259, 2, none⟩ = some (.slice A0_2 l0_2.length c0_2) := (blk_cell BK259.out 2).trans rfl
       have hfz62_0 := blk_frozen BK259.out 0
       have hfz62_1 := blk_frozen BK259.out 1
       have hfz62_2 := blk_frozen BK259.out 2
       try go_wp2_with (first | ((with_reducible refine gate_callee (f := 8) rfl ?_); refine goesL_ (some 29) rfl rfl Try.func8 (by kernel_rfl) rfl #[.slice A0_0 l0_0.length c0_0] rfl (by (try simp only [List.map_toArray, List.map_cons, List.map_nil]); first | done | rfl | (simp only [List.length_drop, List.length_take]; rfl)) ?_; (with_reducible refine (eyewitnessref11_Of.calls kj1 _ _ l0_0 t262 t265 t268 true _ ?side1 ?side2 A18.out).mono ?_); (case side1 => exact tC HR0_0); (case side2 => exact HC0_0.out); rintro e w63 ⟨v263, v266, v269, rfl, ho0, ho1, ho2, hb⟩; refine ⟨_, rfl, ?_⟩; have n0_ := Aside0.mk (Kd.R_lower ho0 (below_size tH)); have n1_ := Aside0.mk (Kd.R_lower ho1 (below_size tH)); have n2_ := Aside0.mk (Kd.R_lower ho2 (below_size tH)); have n3_ := Aside0.mk (blk_below (g := gb259) tB hb); have n4_ := Aside0.mk (below_step tH hb); clear BK259; clear HB; have HO264 := n0_; have HO267 := n1_; have HO270 := n2_; have BK259 := n3_; have HB := n4_; clear n0_ n1_ n2_ n3_ n4_; (try clear hb); (try clear hb2); (try clear hk); (try clear hi); (try clear ho0); (try clear ho1); (try clear ho2)) | ((with_reducible refine gate_dst (N := 3) rfl ?_); (try (refine gate_guard (by rfl) ?_; dsimp only)); refine box_event ?hg (N := 3) ?hd (cs := #[.slice none 0 0, .slice none 0 0, .slice none 0 0]) (t := 31) ?hr ?_; (case hd => rfl); (case hg => rfl); (case hr => first | (go_simp; done) | (go_simp; rfl)); intro gb272 hg w64 hbox hb; have n0_ := Aside0.mk (Kd.R_below (tRr HO264) hb); have n1_ := Aside0.mk (Kd.R_below (tRr HO267) hb); have n2_ := Aside0.mk (Kd.R_below (tRr HO270) hb); have n3_ := Aside0.mk (blk_below (g := gb259) tB hb); have n4_ := Aside0.mk (below_step tH hb); have n5_ := Aside0.mk (hbox); have n6_ := Aside0.mk ((by rw [hg]; exact (below_size tH) : w.heap.size ≤ gb272)); have n7_ := Aside0.mk ((by rw [hg]; exact (below_size tH) : w.heap.size ≤ gb272)); have n8_ := Aside0.mk ((by rw [hg]; exact Nat.ne_of_lt (blk_lt (g := gb259) tB) : gb259 ≠ gb272)); have n9_ := Aside0.mk ((by rw [hg]; exact Nat.ne_of_gt (blk_lt (g := gb259) tB) : gb272 ≠ gb259)); clear HO264; clear HO267; clear HO270; clear BK259; clear HB; have HO264 := n0_; have HO267 := n1_; have HO270 := n2_; have BK259 := n3_; have HB := n4_; have BK272 := n5_; have GW272 := n6_; have GE272 := n7_; have NB259_272 := n8_; have NB272_259 := n9_; clear n0_ n1_ n2_ n3_ n4_ n5_ n6_ n7_ n8_ n9_; clear hb hbox hg; obtain ⟨Ao65, co65, eo65⟩ := Kd.R_slice HO264.out; subst eo65; have hnb66 := NB272_259.out; have hnc66 := NB259_272.out; have hcz67_0 : w64.cell? ⟨gb272, 0, none⟩ = some (.slice none 0 0) := (blk_cell BK272.out 0).trans rfl; have hcz67_1 : w64.cell? ⟨gb272, 1, none⟩ = some (.slice none 0 0) := (blk_cell BK272.out 1).trans rfl; have hcz67_2 : w64.cell? ⟨gb272, 2, none⟩ = some (.slice none 0 0) := (blk_cell BK272.out 2).trans rfl; have hfz67_0 := blk_frozen BK272.out 0; have hfz67_1 := blk_frozen BK272.out 1; have hfz67_2 := blk_frozen BK272.out 2; obtain ⟨Ao68, co68, eo68⟩ := Kd.R_slice HO267.out; subst eo68; obtain ⟨Ao69, co69, eo69⟩ := Kd.R_slice HO270.out; subst eo69; have hcz70_0 : w64.cell? ⟨gb259, 0, none⟩ = some (.slice A0_0 l0_0.length c0_0) := (blk_cell BK259.out 0).trans rfl; have hcz70_1 : w64.cell? ⟨gb259, 1, none⟩ = some (.slice A0_1 l0_1.length c0_1) := (blk_cell BK259.out 1).trans rfl; have hcz70_2 : w64.cell? ⟨gb259, 2, none⟩ = some (.slice A0_2 l0_2.length c0_2) := (blk_cell BK259.out 2).trans rfl; have hfz70_0 := blk_frozen BK259.out 0; have hfz70_1 := blk_frozen BK259.out 1; have hfz70_2 := blk_frozen BK259.out 2) | ((with_reducible refine gate_callee (f := 9) rfl ?_); refine goesL_ (some 41) rfl rfl Try.func9 (by kernel_rfl) rfl #[.agg #[.slice Ao65 t262.length co65, .slice Ao68 t265.length co68, .slice Ao69 t268.length co69], .slice A0_1 l0_1.length c0_1, .slice A0_2 l0_2.length c0_2] rfl (by (try simp only [List.map_toArray, List.map_cons, List.map_nil]); first | done | rfl | (simp only [List.length_drop, List.length_take]; rfl)) ?_; (with_reducible refine (run_Wrong.calls _ _ t262 _ _ t265 _ _ t268 _ _ l0_1 _ _ l0_2 t274 t275 _ ?side1 ?side2 ?side3 ?side4 ?side5 ?side6 ?side7 ?side8 ?side9 ?side10 A20.out).mono ?_); (case side1 => refine (Kd.R_reads' (e := 9) (base := w.heap.size) (ok := fun k_ => True) (n := t262.length) (c := co65) ?_).2.2; exact (by (with_reducible repeat (first | apply Kd.R_alloc | apply Kd.R_drewN | apply Kd.R_drew)); exact (Kd.R_mono (Kd.R_far (p := ⟨gb272, 2, none⟩) (Kd.R_far (p := ⟨gb272, 1, none⟩) (Kd.R_far (p := ⟨gb272, 0, none⟩) (Kd.R_types HO264.out BK272.out (by decide)) (fun _ hk => hk.2) (.slice Ao65 t262.length co65)) (fun _ hk => hk.2) (.slice Ao68 t265.length co68)) (fun _ hk => hk.2) (.slice Ao69 t268.length co69)) (fun _ h_ => h_.1)))); (case side2 => exact (Kd.R_reads' HO264.out).2.1); (case side3 => refine (Kd.R_reads' (e := 40) (base := w.heap.size) (ok := fun k_ => True) (n := t265.length) (c := co68) ?_).2.2; exact (by (with_reducible repeat (first | apply Kd.R_alloc | apply Kd.R_drewN | apply Kd.R_drew)); exact (Kd.R_mono (Kd.R_far (p := ⟨gb272, 2, none⟩) (Kd.R_far (p := ⟨gb272, 1, none⟩) (Kd.R_far (p := ⟨gb272, 0, none⟩) (Kd.R_types HO267.out BK272.out (by decide)) (fun _ hk => hk.2) (.slice Ao65 t262.length co65)) (fun _ hk => hk.2) (.slice Ao68 t265.length co68)) (fun _ hk => hk.2) (.slice Ao69 t268.length co69)) (fun _ h_ => h_.1)))); (case side4 => exact (Kd.R_reads' HO267.out).2.1); (case side5 => refine (Kd.R_reads' (e := 3) (base := w.heap.size) (ok := fun k_ => True) (n := t268.length) (c := co69) ?_).2.2; exact (by (with_reducible repeat (first | apply Kd.R_alloc | apply Kd.R_drewN | apply Kd.R_drew)); exact (Kd.R_mono (Kd.R_far (p := ⟨gb272, 2, none⟩) (Kd.R_far (p := ⟨gb272, 1, none⟩) (Kd.R_far (p := ⟨gb272, 0, none⟩) (Kd.R_types HO270.out BK272.out (by decide)) (fun _ hk => hk.2) (.slice Ao65 t262.length co65)) (fun _ hk => hk.2) (.slice Ao68 t265.length co68)) (fun _ hk => hk.2) (.slice Ao69 t268.length co69)) (fun _ h_ => h_.1)))); (case side6 => exact (Kd.R_reads' HO270.out).2.1); (case side7 => exact Kd.C_below HR0_1.out tH); (case side8 => exact HC0_1.out); (case side9 => exact Kd.C_below HR0_2.out tH); (case side10 => exact HC0_2.out); rintro e w71 ⟨rfl, hb⟩; refine ⟨_, rfl, ?_⟩; have n0_ := Aside0.mk (Kd.R_below (by (with_reducible repeat (first | apply Kd.R_alloc | apply Kd.R_drewN | apply Kd.R_drew)); exact (Kd.R_mono (Kd.R_far (p := ⟨gb272, 2, none⟩) (Kd.R_far (p := ⟨gb272, 1, none⟩) (Kd.R_far (p := ⟨gb272, 0, none⟩) (Kd.R_types HO264.out BK272.out (by decide)) (fun _ hk => hk.2) (.slice Ao65 t262.length co65)) (fun _ hk => hk.2) (.slice Ao68 t265.length co68)) (fun _ hk => hk.2) (.slice Ao69 t268.length co69)) (fun _ h_ => h_.1))) hb); have n1_ := Aside0.mk (Kd.R_below (by (with_reducible repeat (first | apply Kd.R_alloc | apply Kd.R_drewN | apply Kd.R_drew)); exact (Kd.R_mono (Kd.R_far (p := ⟨gb272, 2, none⟩) (Kd.R_far (p := ⟨gb272, 1, none⟩) (Kd.R_far (p := ⟨gb272, 0, none⟩) (Kd.R_types HO267.out BK272.out (by decide)) (fun _ hk => hk.2) (.slice Ao65 t262.length co65)) (fun _ hk => hk.2) (.slice Ao68 t265.length co68)) (fun _ hk => hk.2) (.slice Ao69 t268.length co69)) (fun _ h_ => h_.1))) hb); have n2_ := Aside0.mk (Kd.R_below (by (with_reducible repeat (first | apply Kd.R_alloc | apply Kd.R_drewN | apply Kd.R_drew)); exact (Kd.R_mono (Kd.R_far (p := ⟨gb272, 2, none⟩) (Kd.R_far (p := ⟨gb272, 1, none⟩) (Kd.R_far (p := ⟨gb272, 0, none⟩) (Kd.R_types HO270.out BK272.out (by decide)) (fun _ hk => hk.2) (.slice Ao65 t262.length co65)) (fun _ hk => hk.2) (.slice Ao68 t265.length co68)) (fun _ hk => hk.2) (.slice Ao69 t268.length co69)) (fun _ h_ => h_.1))) hb); have n3_ := Aside0.mk (blk_below (g := gb259) (o := .cells #[.slice A0_0 l0_0.length c0_0, .slice A0_1 l0_1.length c0_1, .slice A0_2 l0_2.length c0_2] 25 (0, 0)) (by (with_reducible repeat (first | refine blk_drewN ?_ _ | refine blk_drew ?_ | refine blk_alloc ?_ _)); refine blk_far ?_ NB259_272.out _; (with_reducible repeat (first | refine blk_drewN ?_ _ | refine blk_drew ?_ | refine blk_alloc ?_ _)); refine blk_far ?_ NB259_272.out _; (with_reducible repeat (first | refine blk_drewN ?_ _ | refine blk_drew ?_ | refine blk_alloc ?_ _)); refine blk_far ?_ NB259_272.out _; (with_reducible repeat (first | refine blk_drewN ?_ _ | refine blk_drew ?_ | refine blk_alloc ?_ _)); exact BK259.out) hb); have n4_ := Aside0.mk (blk_below (g := gb272) (o := .cells #[.slice Ao65 t262.length co65, .slice Ao68 t265.length co68, .slice Ao69 t268.length co69] 31 (0, 0)) (by (with_reducible repeat (first | refine blk_drewN ?_ _ | refine blk_drew ?_ | refine blk_alloc ?_ _)); refine blk_put (cs := #[.slice Ao65 t262.length co65, .slice Ao68 t265.length co68, .slice none 0 0]) ?_ 2 _ rfl; (with_reducible repeat (first | refine blk_drewN ?_ _ | refine blk_drew ?_ | refine blk_alloc ?_ _)); refine blk_put (cs := #[.slice Ao65 t262.length co65, .slice none 0 0, .slice none 0 0]) ?_ 1 _ rfl; (with_reducible repeat (first | refine blk_drewN ?_ _ | refine blk_drew ?_ | refine blk_alloc ?_ _)); refine blk_put (cs := #[.slice none 0 0, .slice none 0 0, .slice none 0 0]) ?_ 0 _ rfl; (with_reducible repeat (first | refine blk_drewN ?_ _ | refine blk_drew ?_ | refine blk_alloc ?_ _)); exact BK272.out) hb); have n5_ := Aside0.mk (below_step tH hb); clear HO264; clear HO267; clear HO270; clear BK259; clear BK272; clear HB; have HO264 := n0_; have HO267 := n1_; have HO270 := n2_; have BK259 := n3_; have BK272 := n4_; have HB := n5_; clear n0_ n1_ n2_ n3_ n4_ n5_; (try clear hb); (try clear hb2); (try clear hk); (try clear hi); have hcz72_0 : w71.cell? ⟨gb272, 0, none⟩ = some (.slice Ao65 t262.length co65) := (blk_cell BK272.out 0).trans rfl; have hcz72_1 : w71.cell? ⟨gb272, 1, none⟩ = some (.slice Ao68 t265.length co68) := (blk_cell BK272.out 1).trans rfl; have hcz72_2 : w71.cell? ⟨gb272, 2, none⟩ = some (.slice Ao69 t268.length co69) := (blk_cell BK272.out 2).trans rfl; have hfz72_0 := blk_frozen BK272.out 0; have hfz72_1 := blk_frozen BK272.out 1; have hfz72_2 := blk_frozen BK272.out 2; have hcz73_0 : w71.cell? ⟨gb259, 0, none⟩ = some (.slice A0_0 l0_0.length c0_0) := (blk_cell BK259.out 0).trans rfl; have hcz73_1 : w71.cell? ⟨gb259, 1, none⟩ = some (.slice A0_1 l0_1.length c0_1) := (blk_cell BK259.out 1).trans rfl; have hcz73_2 : w71.cell? ⟨gb259, 2, none⟩ = some (.slice A0_2 l0_2.length c0_2) := (blk_cell BK259.out 2).trans rfl; have hfz73_0 := blk_frozen BK259.out 0; have hfz73_1 := blk_frozen BK259.out 1; have hfz73_2 := blk_frozen BK259.out 2) | ((with_reducible refine gate_callee (f := 10) rfl ?_); refine goesL_ (some 50) rfl rfl Try.func10 (by kernel_rfl) rfl #[.agg #[.slice Ao65 t262.length co65, .slice Ao68 t265.length co68, .slice Ao69 t268.length co69], .slice A0_1 l0_1.length c0_1, .slice A0_2 l0_2.length c0_2] rfl (by (try simp only [List.map_toArray, List.map_cons, List.map_nil]); first | done | rfl | (simp only [List.length_drop, List.length_take]; rfl)) ?_; (with_reducible refine (eyewitnessref22_Wrong.calls kj1 _ _ t262 _ _ t265 _ _ t268 _ _ l0_1 _ _ l0_2 t276 t277 _ ?side1 ?side2 ?side3 ?side4 ?side5 ?side6 ?side7 ?side8 ?side9 ?side10 A21.out).mono ?_); (case side1 => exact tD (Kd.R_reads' HO264.out).2.2); (case side2 => exact (Kd.R_reads' HO264.out).2.1); (case side3 => exact tD (Kd.R_reads' HO267.out).2.2); (case side4 => exact (Kd.R_reads' HO267.out).2.1); (case side5 => exact tD (Kd.R_reads' HO270.out).2.2); (case side6 => exact (Kd.R_reads' HO270.out).2.1); (case side7 => exact tC HR0_1); (case side8 => exact HC0_1.out); (case side9 => exact tC HR0_2); (case side10 => exact HC0_2.out); rintro e w74 ⟨rfl, hb⟩; refine ⟨_, rfl, ?_⟩; have n0_ := Aside0.mk (Kd.R_below (tRr HO264) hb); have n1_ := Aside0.mk (Kd.R_below (tRr HO267) hb); have n2_ := Aside0.mk (Kd.R_below (tRr HO270) hb); have n3_ := Aside0.mk (blk_below (g := gb259) tB hb); have n4_ := Aside0.mk (blk_below (g := gb272) tB hb); have n5_ := Aside0.mk (below_step tH hb); clear HO264; clear HO267; clear HO270; clear BK259; clear BK272; clear HB; have HO264 := n0_; have HO267 := n1_; have HO270 := n2_; have BK259 := n3_; have BK272 := n4_; have HB := n5_; clear n0_ n1_ n2_ n3_ n4_ n5_; (try clear hb); (try clear hb2); (try clear hk); (try clear hi)))
       have n0_ := Aside0.mk (Kd.R_drew HO264.out)
       have n1_ := Aside0.mk (Kd.R_drew HO267.out)
       have n2_ := Aside0.mk (Kd.R_drew HO270.out)
       have n3_ := Aside0.mk (blk_drew BK259.out)
       have n4_ := Aside0.mk (blk_drew BK272.out)
       have n5_ := Aside0.mk (below_drew1 HB.out)
       clear HO264
       clear HO267
       clear HO270
       clear BK259
       clear BK272
       clear HB
       have HO264 := n0_
       have HO267 := n1_
       have HO270 := n2_
       have BK259 := n3_
       have BK272 := n4_
       have HB := n5_
       clear n0_ n1_ n2_ n3_ n4_ n5_
       refine start_ (n := 27) (S := fun w' => w'.cell? ⟨gb272, 0, none⟩ = some (.slice Ao65 t262.length co65) ∧ w'.cell? ⟨gb272, 1, none⟩ = some (.slice Ao68 t265.length co68) ∧ w'.cell? ⟨gb272, 2, none⟩ = some (.slice Ao69 t268.length co69) ∧ w'.cell? ⟨gb259, 0, none⟩ = some (.slice A0_0 l0_0.length c0_0) ∧ w'.cell? ⟨gb259, 1, none⟩ = some (.slice A0_1 l0_1.length c0_1) ∧ w'.cell? ⟨gb259, 2, none⟩ = some (.slice A0_2 l0_2.length c0_2)) (ds := []) (bl 27 0) (by kernel_rfl) rfl rfl ⟨(blk_cell BK272.out 0).trans rfl, (blk_cell BK272.out 1).trans rfl, (blk_cell BK272.out 2).trans rfl, (blk_cell BK259.out 0).trans rfl, (blk_cell BK259.out 1).trans rfl, (blk_cell BK259.out 2).trans rfl⟩ (fun hHeld => ?_); refine with_tabW eyewitnesslaw22_RunTells.tab8 eyewitnesslaw22_RunTells.bits8 (fun HT_ HW_ => ?_)
       generalize w74.drew = w75 at HO264 HO267 HO270 BK259 BK272 HB hHeld ⊢
       refine one_ (i := 0) (N := some 53) (bl 27 1) rfl rfl (one_of HT_.out (by kernel_rfl)) (by decide) (fun K hK => ?_)
       refine goes_ Try.func7 (by kernel_rfl) rfl #[] (by rfl) rfl rfl (by (try simp only [List.map_toArray, List.map_cons, List.map_nil]); first | done | rfl | (simp only [List.length_drop, List.length_take]; rfl)) ?_
       with_reducible refine (eyewitnesslaw22_awake.calls kj1  true _ A22.out).mono ?_
       rintro e w76 ⟨rfl, hb⟩
       refine ⟨_, rfl, ?_⟩
       have n0_ := Aside0.mk (Kd.R_below (tRr HO264) hb)
       have n1_ := Aside0.mk (Kd.R_below (tRr HO267) hb)
       have n2_ := Aside0.mk (Kd.R_below (tRr HO270) hb)
       have n3_ := Aside0.mk (blk_below (g := gb259) tB hb)
       have n4_ := Aside0.mk (blk_below (g := gb272) tB hb)
       have n5_ := Aside0.mk (below_step tH hb)
       clear HO264
       clear HO267
       clear HO270
       clear BK259
       clear BK272
       clear HB
       have HO264 := n0_
       have HO267 := n1_
       have HO270 := n2_
       have BK259 := n3_
       have BK272 := n4_
       have HB := n5_
       clear n0_ n1_ n2_ n3_ n4_ n5_
       (try clear hb)
       (try clear hb2)
       (try clear hk)
       (try clear hi)
       refine hK.out _ _ ⟨(blk_cell BK272.out 0).trans rfl, (blk_cell BK272.out 1).trans rfl, (blk_cell BK272.out 2).trans rfl, (blk_cell BK259.out 0).trans rfl, (blk_cell BK259.out 1).trans rfl, (blk_cell BK259.out 2).trans rfl⟩ (fun hHeld => ?_)
       clear hK K
       refine norm_ (a' := ?_) ?_ ?_
       rotate_left
       ·show Act.put _ (some 53) _ = _
        simp only [Act.put, List.setIfInBounds_toArray, List.set_cons_zero, List.set_cons_succ, i64_w, i32_w]
        rfl
       refine pX 1 54 (bl 27 3) HT_ rfl rfl kA (fun _ _ _ h => h) yA hA ?_
       refine pX 3 56 (bl 27 11) HT_ rfl rfl kA (fun _ _ _ h => h) yA hA ?_
       refine pX 5 58 (bl 27 43) HT_ rfl rfl kA (fun _ _ _ h => h) yA hA ?_
       refine pX 9 62 (bl 27 555) HT_ rfl rfl kA (fun _ _ _ h => h) yA hA ?_
       refine pX 11 64 (bl 27 2603) HT_ rfl rfl kA (fun _ _ _ h => h) yA hA ?_
       refine pT 2 55 (bl 27 2607) HT_ HW_ rfl rfl kA (fun _ _ _ h => h) yS hHeld hA ?_
       refine pT 4 57 (bl 27 2623) HT_ HW_ rfl rfl kA (fun _ _ _ h => h) yS hHeld hA ?_
       refine pT 6 59 (bl 27 2687) HT_ HW_ rfl rfl kA (fun _ _ _ h => h) yS hHeld hA ?_
       refine pT 8 61 (bl 27 2943) HT_ HW_ rfl rfl kA (fun _ _ _ h => h) yS hHeld hA ?_
       refine pT 10 63 (bl 27 3967) HT_ HW_ rfl rfl kA (fun _ _ _ h => h) yS hHeld hA ?_
       refine pT 12 65 (bl 27 8063) HT_ HW_ rfl rfl kA (fun _ _ _ h => h) yS hHeld hA ?_
       refine one_ (i := 7) (N := some 60) (bl 27 8191) rfl rfl (one_of HT_.out (by kernel_rfl)) (by decide) (fun K hK => ?_)
       refine goes_ Try.func11 (by kernel_rfl) rfl #[.agg #[.slice Ao65 t262.length co65, .slice Ao68 t265.length co68, .slice Ao69 t268.length co69], .slice A0_1 l0_1.length c0_1, .slice A0_2 l0_2.length c0_2] (by rfl) rfl rfl (by (try simp only [List.map_toArray, List.map_cons, List.map_nil]); first | done | rfl | (simp only [List.length_drop, List.length_take]; rfl)) ?_
       with_reducible refine (run_Legal.calls _ _ t262 _ _ t265 _ _ t268 _ _ l0_1 _ _ l0_2 t279 _ ?side1 ?side2 ?side3 ?side4 ?side5 ?side6 ?side7 ?side8 ?side9 ?side10 A24.out).mono ?_
       (case side1 => exact tD (Kd.R_reads' HO264.out).2.2)
       (case side2 => exact (Kd.R_reads' HO264.out).2.1)
       (case side3 => exact tD (Kd.R_reads' HO267.out).2.2)
       (case side4 => exact (Kd.R_reads' HO267.out).2.1)
       (case side5 => exact tD (Kd.R_reads' HO270.out).2.2)
       (case side6 => exact (Kd.R_reads' HO270.out).2.1)
       (case side7 => exact tC HR0_1)
       (case side8 => exact HC0_1.out)
       (case side9 => exact tC HR0_2)
       (case side10 => exact HC0_2.out)
       rintro e w77 ⟨rfl, hb⟩
       refine ⟨_, rfl, ?_⟩
       have n0_ := Aside0.mk (Kd.R_below (tRr HO264) hb)
       have n1_ := Aside0.mk (Kd.R_below (tRr HO267) hb)
       have n2_ := Aside0.mk (Kd.R_below (tRr HO270) hb)
       have n3_ := Aside0.mk (blk_below (g := gb259) tB hb)
       have n4_ := Aside0.mk (blk_below (g := gb272) tB hb)
       have n5_ := Aside0.mk (below_step tH hb)
       clear HO264
       clear HO267
       clear HO270
       clear BK259
       clear BK272
       clear HB
       have HO264 := n0_
       have HO267 := n1_
       have HO270 := n2_
       have BK259 := n3_
       have BK272 := n4_
       have HB := n5_
       clear n0_ n1_ n2_ n3_ n4_ n5_
       (try clear hb)
       (try clear hb2)
       (try clear hk)
       (try clear hi)
       refine hK.out _ _ ⟨(blk_cell BK272.out 0).trans rfl, (blk_cell BK272.out 1).trans rfl, (blk_cell BK272.out 2).trans rfl, (blk_cell BK259.out 0).trans rfl, (blk_cell BK259.out 1).trans rfl, (blk_cell BK259.out 2).trans rfl⟩ (fun hHeld => ?_)
       clear hK K
       refine norm_ (a' := ?_) ?_ ?_
       rotate_left
       ·show Act.put _ (some 60) _ = _
        simp only [Act.put, List.setIfInBounds_toArray, List.set_cons_zero, List.set_cons_succ, i64_w, i32_w]
        rfl
       refine one_ (i := 13) (N := some 66) (bl 27 16383) rfl rfl (one_of HT_.out (by kernel_rfl)) (by decide) (fun K hK => ?_)
       refine goes_ Try.func12 (by kernel_rfl) rfl #[.agg #[.slice Ao65 t262.length co65, .slice Ao68 t265.length co68, .slice Ao69 t268.length co69], .slice A0_1 l0_1.length c0_1, .slice A0_2 l0_2.length c0_2] (by rfl) rfl rfl (by (try simp only [List.map_toArray, List.map_cons, List.map_nil]); first | done | rfl | (simp only [List.length_drop, List.length_take]; rfl)) ?_
       with_reducible refine (eyewitnessref22_Legal.calls kj1 _ _ t262 _ _ t265 _ _ t268 _ _ l0_1 _ _ l0_2 t280 _ ?side1 ?side2 ?side3 ?side4 ?side5 ?side6 ?side7 ?side8 ?side9 ?side10 A25.out).mono ?_
       (case side1 => exact tD (Kd.R_reads' HO264.out).2.2)
       (case side2 => exact (Kd.R_reads' HO264.out).2.1)
       (case side3 => exact tD (Kd.R_reads' HO267.out).2.2)
       (case side4 => exact (Kd.R_reads' HO267.out).2.1)
       (case side5 => exact tD (Kd.R_reads' HO270.out).2.2)
       (case side6 => exact (Kd.R_reads' HO270.out).2.1)
       (case side7 => exact tC HR0_1)
       (case side8 => exact HC0_1.out)
       (case side9 => exact tC HR0_2)
       (case side10 => exact HC0_2.out)
       rintro e w78 ⟨rfl, hb⟩
       refine ⟨_, rfl, ?_⟩
       have n0_ := Aside0.mk (Kd.R_below (tRr HO264) hb)
       have n1_ := Aside0.mk (Kd.R_below (tRr HO267) hb)
       have n2_ := Aside0.mk (Kd.R_below (tRr HO270) hb)
       have n3_ := Aside0.mk (blk_below (g := gb259) tB hb)
       have n4_ := Aside0.mk (blk_below (g := gb272) tB hb)
       have n5_ := Aside0.mk (below_step tH hb)
       clear HO264
       clear HO267
       clear HO270
       clear BK259
       clear BK272
       clear HB
       have HO264 := n0_
       have HO267 := n1_
       have HO270 := n2_
       have BK259 := n3_
       have BK272 := n4_
       have HB := n5_
       clear n0_ n1_ n2_ n3_ n4_ n5_
       (try clear hb)
       (try clear hb2)
       (try clear hk)
       (try clear hi)
       refine hK.out _ _ ⟨(blk_cell BK272.out 0).trans rfl, (blk_cell BK272.out 1).trans rfl, (blk_cell BK272.out 2).trans rfl, (blk_cell BK259.out 0).trans rfl, (blk_cell BK259.out 1).trans rfl, (blk_cell BK259.out 2).trans rfl⟩ (fun hHeld => ?_)
       clear hK K
       refine norm_ (a' := ?_) ?_ ?_
       rotate_left
       ·show Act.put _ (some 66) _ = _
        simp only [Act.put, List.setIfInBounds_toArray, List.set_cons_zero, List.set_cons_succ, i64_w, i32_w]
        rfl
       refine pX 14 67 (bl 27 32767) HT_ rfl rfl kA (fun _ _ _ h => h) yA hA ?_
       refine pX 15 68 (bl 27 65535) HT_ rfl rfl kA (fun _ _ _ h => h) yA hA ?_
       refine pX 16 69 (bl 27 131071) HT_ rfl rfl kA (fun _ _ _ h => h) yA hA ?_
       refine pU 17 70 (bl 27 262143) HT_ rfl rfl kA (fun _ _ _ h => h) (by rfl) hA ?_
       refine pU 18 71 (bl 27 524287) HT_ rfl rfl kA (fun _ _ _ h => h) (by rfl) hA ?_
       refine pU 19 72 (bl 27 1048575) HT_ rfl rfl kA (fun _ _ _ h => h) (by rfl) hA ?_
       refine pX 20 73 (bl 27 2097151) HT_ rfl rfl kA (fun _ _ _ h => h) yA hA ?_
       refine pX 21 74 (bl 27 4194303) HT_ rfl rfl kA (fun _ _ _ h => h) yA hA ?_
       refine pU 22 75 (bl 27 8388607) HT_ rfl rfl kA (fun _ _ _ h => h) (by rfl) hA ?_
       refine pU 23 76 (bl 27 16777215) HT_ rfl rfl kA (fun _ _ _ h => h) (by rfl) hA ?_
       refine pU 24 77 (bl 27 33554431) HT_ rfl rfl kA (fun _ _ _ h => h) (by rfl) hA ?_
       refine pX 25 78 (bl 27 67108863) HT_ rfl rfl kA (fun _ _ _ h => h) yA hA ?_
       refine pX 26 2 (bl 27 134217727) HT_ rfl rfl kA (fun _ _ _ h => h) yA hA ?_
       refine done_ (done_of HT_.out (by kernel_rfl)) ?_
       try go_wp2
       go_ret
       exact ⟨by first | rfl | (simp [errW_none, errW_some] <;> rfl) | (simp [*, errW_none, errW_some] <;> rfl), tH⟩
     ·replace c23 := Bool.eq_false_iff.mpr c23
      subst c23
      have H1 : (some false) = some r := by rw [if_neg (show ¬ (false = true) by decide)] at H; exact H
      clear H
      have H := H1
      clear H1
      obtain rfl := Option.some.inj H
      have hcz79_0 : wc.cell? ⟨gb259, 0, none⟩ = some (.slice A0_0 l0_0.length c0_0) := (blk_cell BK259.out 0).trans rfl
      have hcz79_1 : wc.cell? ⟨gb259, 1, none⟩ = some (.slice A0_1 l0_1.length c0_1) := (blk_cell BK259.out 1).trans rfl
      have hcz79_2 : wc.cell? ⟨gb259, 2, none⟩ = some (.slice A0_2 l0_2.length c0_2) := (blk_cell BK259.out 2).trans rfl
      have hfz79_0 := blk_frozen BK259.out 0
      have hfz79_1 := blk_frozen BK259.out 1
      have hfz79_2 := blk_frozen BK259.out 2
      try go_wp2_with (first | ((with_reducible refine gate_callee (f := 8) rfl ?_); refine goesL_ (some 29) rfl rfl Try.func8 (by kernel_rfl) rfl #[.slice A0_0 l0_0.length c0_0] rfl (by (try simp only [List.map_toArray, List.map_cons, List.map_nil]); first | done | rfl | (simp only [List.length_drop, List.length_take]; rfl)) ?_; (with_reducible refine (eyewitnessref11_Of.calls kj1 _ _ l0_0 t262 t265 t268 true _ ?side1 ?side2 A18.out).mono ?_); (case side1 => exact tC HR0_0); (case side2 => exact HC0_0.out); rintro e w80 ⟨v263, v266, v269, rfl, ho0, ho1, ho2, hb⟩; refine ⟨_, rfl, ?_⟩; have n0_ := Aside0.mk (Kd.R_lower ho0 (below_size tH)); have n1_ := Aside0.mk (Kd.R_lower ho1 (below_size tH)); have n2_ := Aside0.mk (Kd.R_lower ho2 (below_size tH)); have n3_ := Aside0.mk (blk_below (g := gb259) tB hb); have n4_ := Aside0.mk (below_step tH hb); clear BK259; clear HB; have HO264 := n0_; have HO267 := n1_; have HO270 := n2_; have BK259 := n3_; have HB := n4_; clear n0_ n1_ n2_ n3_ n4_; (try clear hb); (try clear hb2); (try clear hk); (try clear hi); (try clear ho0); (try clear ho1); (try clear ho2)) | ((with_reducible refine gate_dst (N := 3) rfl ?_); (try (refine gate_guard (by rfl) ?_; dsimp only)); refine box_event ?hg (N := 3) ?hd (cs := #[.slice none 0 0, .slice none 0 0, .slice none 0 0]) (t := 31) ?hr ?_; (case hd => rfl); (case hg => rfl); (case hr => first | (go_simp; done) | (go_simp; rfl)); intro gb272 hg w81 hbox hb; have n0_ := Aside0.mk (Kd.R_below (tRr HO264) hb); have n1_ := Aside0.mk (Kd.R_below (tRr HO267) hb); have n2_ := Aside0.mk (Kd.R_below (tRr HO270) hb); have n3_ := Aside0.mk (blk_below (g := gb259) tB hb); have n4_ := Aside0.mk (below_step tH hb); have n5_ := Aside0.mk (hbox); have n6_ := Aside0.mk ((by rw [hg]; exact (below_size tH) : w.heap.size ≤ gb272)); have n7_ := Aside0.mk ((by rw [hg]; exact (below_size tH) : w.heap.size ≤ gb272)); have n8_ := Aside0.mk ((by rw [hg]; exact Nat.ne_of_lt (blk_lt (g := gb259) tB) : gb259 ≠ gb272)); have n9_ := Aside0.mk ((by rw [hg]; exact Nat.ne_of_gt (blk_lt (g := gb259) tB) : gb272 ≠ gb259)); clear HO264; clear HO267; clear HO270; clear BK259; clear HB; have HO264 := n0_; have HO267 := n1_; have HO270 := n2_; have BK259 := n3_; have HB := n4_; have BK272 := n5_; have GW272 := n6_; have GE272 := n7_; have NB259_272 := n8_; have NB272_259 := n9_; clear n0_ n1_ n2_ n3_ n4_ n5_ n6_ n7_ n8_ n9_; clear hb hbox hg; obtain ⟨Ao82, co82, eo82⟩ := Kd.R_slice HO264.out; subst eo82; have hnb83 := NB272_259.out; have hnc83 := NB259_272.out; have hcz84_0 : w81.cell? ⟨gb272, 0, none⟩ = some (.slice none 0 0) := (blk_cell BK272.out 0).trans rfl; have hcz84_1 : w81.cell? ⟨gb272, 1, none⟩ = some (.slice none 0 0) := (blk_cell BK272.out 1).trans rfl; have hcz84_2 : w81.cell? ⟨gb272, 2, none⟩ = some (.slice none 0 0) := (blk_cell BK272.out 2).trans rfl; have hfz84_0 := blk_frozen BK272.out 0; have hfz84_1 := blk_frozen BK272.out 1; have hfz84_2 := blk_frozen BK272.out 2; obtain ⟨Ao85, co85, eo85⟩ := Kd.R_slice HO267.out; subst eo85; obtain ⟨Ao86, co86, eo86⟩ := Kd.R_slice HO270.out; subst eo86; have hcz87_0 : w81.cell? ⟨gb259, 0, none⟩ = some (.slice A0_0 l0_0.length c0_0) := (blk_cell BK259.out 0).trans rfl; have hcz87_1 : w81.cell? ⟨gb259, 1, none⟩ = some (.slice A0_1 l0_1.length c0_1) := (blk_cell BK259.out 1).trans rfl; have hcz87_2 : w81.cell? ⟨gb259, 2, none⟩ = some (.slice A0_2 l0_2.length c0_2) := (blk_cell BK259.out 2).trans rfl; have hfz87_0 := blk_frozen BK259.out 0; have hfz87_1 := blk_frozen BK259.out 1; have hfz87_2 := blk_frozen BK259.out 2) | ((with_reducible refine gate_callee (f := 9) rfl ?_); refine goesL_ (some 41) rfl rfl Try.func9 (by kernel_rfl) rfl #[.agg #[.slice Ao82 t262.length co82, .slice Ao85 t265.length co85, .slice Ao86 t268.length co86], .slice A0_1 l0_1.length c0_1, .slice A0_2 l0_2.length c0_2] rfl (by (try simp only [List.map_toArray, List.map_cons, List.map_nil]); first | done | rfl | (simp only [List.length_drop, List.length_take]; rfl)) ?_; (with_reducible refine (run_Wrong.calls _ _ t262 _ _ t265 _ _ t268 _ _ l0_1 _ _ l0_2 t274 t275 _ ?side1 ?side2 ?side3 ?side4 ?side5 ?side6 ?side7 ?side8 ?side9 ?side10 A20.out).mono ?_); (case side1 => refine (Kd.R_reads' (e := 9) (base := w.heap.size) (ok := fun k_ => True) (n := t262.length) (c := co82) ?_).2.2; exact (by (with_reducible repeat (first | apply Kd.R_alloc | apply Kd.R_drewN | apply Kd.R_drew)); exact (Kd.R_mono (Kd.R_far (p := ⟨gb272, 2, none⟩) (Kd.R_far (p := ⟨gb272, 1, none⟩) (Kd.R_far (p := ⟨gb272, 0, none⟩) (Kd.R_types HO264.out BK272.out (by decide)) (fun _ hk => hk.2) (.slice Ao82 t262.length co82)) (fun _ hk => hk.2) (.slice Ao85 t265.length co85)) (fun _ hk => hk.2) (.slice Ao86 t268.length co86)) (fun _ h_ => h_.1)))); (case side2 => exact (Kd.R_reads' HO264.out).2.1); (case side3 => refine (Kd.R_reads' (e := 40) (base := w.heap.size) (ok := fun k_ => True) (n := t265.length) (c := co85) ?_).2.2; exact (by (with_reducible repeat (first | apply Kd.R_alloc | apply Kd.R_drewN | apply Kd.R_drew)); exact (Kd.R_mono (Kd.R_far (p := ⟨gb272, 2, none⟩) (Kd.R_far (p := ⟨gb272, 1, none⟩) (Kd.R_far (p := ⟨gb272, 0, none⟩) (Kd.R_types HO267.out BK272.out (by decide)) (fun _ hk => hk.2) (.slice Ao82 t262.length co82)) (fun _ hk => hk.2) (.slice Ao85 t265.length co85)) (fun _ hk => hk.2) (.slice Ao86 t268.length co86)) (fun _ h_ => h_.1)))); (case side4 => exact (Kd.R_reads' HO267.out).2.1); (case side5 => refine (Kd.R_reads' (e := 3) (base := w.heap.size) (ok := fun k_ => True) (n := t268.length) (c := co86) ?_).2.2; exact (by (with_reducible repeat (first | apply Kd.R_alloc | apply Kd.R_drewN | apply Kd.R_drew)); exact (Kd.R_mono (Kd.R_far (p := ⟨gb272, 2, none⟩) (Kd.R_far (p := ⟨gb272, 1, none⟩) (Kd.R_far (p := ⟨gb272, 0, none⟩) (Kd.R_types HO270.out BK272.out (by decide)) (fun _ hk => hk.2) (.slice Ao82 t262.length co82)) (fun _ hk => hk.2) (.slice Ao85 t265.length co85)) (fun _ hk => hk.2) (.slice Ao86 t268.length co86)) (fun _ h_ => h_.1)))); (case side6 => exact (Kd.R_reads' HO270.out).2.1); (case side7 => exact Kd.C_below HR0_1.out tH); (case side8 => exact HC0_1.out); (case side9 => exact Kd.C_below HR0_2.out tH); (case side10 => exact HC0_2.out); rintro e w88 ⟨rfl, hb⟩; refine ⟨_, rfl, ?_⟩; have n0_ := Aside0.mk (Kd.R_below (by (with_reducible repeat (first | apply Kd.R_alloc | apply Kd.R_drewN | apply Kd.R_drew)); exact (Kd.R_mono (Kd.R_far (p := ⟨gb272, 2, none⟩) (Kd.R_far (p := ⟨gb272, 1, none⟩) (Kd.R_far (p := ⟨gb272, 0, none⟩) (Kd.R_types HO264.out BK272.out (by decide)) (fun _ hk => hk.2) (.slice Ao82 t262.length co82)) (fun _ hk => hk.2) (.slice Ao85 t265.length co85)) (fun _ hk => hk.2) (.slice Ao86 t268.length co86)) (fun _ h_ => h_.1))) hb); have n1_ := Aside0.mk (Kd.R_below (by (with_reducible repeat (first | apply Kd.R_alloc | apply Kd.R_drewN | apply Kd.R_drew)); exact (Kd.R_mono (Kd.R_far (p := ⟨gb272, 2, none⟩) (Kd.R_far (p := ⟨gb272, 1, none⟩) (Kd.R_far (p := ⟨gb272, 0, none⟩) (Kd.R_types HO267.out BK272.out (by decide)) (fun _ hk => hk.2) (.slice Ao82 t262.length co82)) (fun _ hk => hk.2) (.slice Ao85 t265.length co85)) (fun _ hk => hk.2) (.slice Ao86 t268.length co86)) (fun _ h_ => h_.1))) hb); have n2_ := Aside0.mk (Kd.R_below (by (with_reducible repeat (first | apply Kd.R_alloc | apply Kd.R_drewN | apply Kd.R_drew)); exact (Kd.R_mono (Kd.R_far (p := ⟨gb272, 2, none⟩) (Kd.R_far (p := ⟨gb272, 1, none⟩) (Kd.R_far (p := ⟨gb272, 0, none⟩) (Kd.R_types HO270.out BK272.out (by decide)) (fun _ hk => hk.2) (.slice Ao82 t262.length co82)) (fun _ hk => hk.2) (.slice Ao85 t265.length co85)) (fun _ hk => hk.2) (.slice Ao86 t268.length co86)) (fun _ h_ => h_.1))) hb); have n3_ := Aside0.mk (blk_below (g := gb259) (o := .cells #[.slice A0_0 l0_0.length c0_0, .slice A0_1 l0_1.length c0_1, .slice A0_2 l0_2.length c0_2] 25 (0, 0)) (by (with_reducible repeat (first | refine blk_drewN ?_ _ | refine blk_drew ?_ | refine blk_alloc ?_ _)); refine blk_far ?_ NB259_272.out _; (with_reducible repeat (first | refine blk_drewN ?_ _ | refine blk_drew ?_ | refine blk_alloc ?_ _)); refine blk_far ?_ NB259_272.out _; (with_reducible repeat (first | refine blk_drewN ?_ _ | refine blk_drew ?_ | refine blk_alloc ?_ _)); refine blk_far ?_ NB259_272.out _; (with_reducible repeat (first | refine blk_drewN ?_ _ | refine blk_drew ?_ | refine blk_alloc ?_ _)); exact BK259.out) hb); have n4_ := Aside0.mk (blk_below (g := gb272) (o := .cells #[.slice Ao82 t262.length co82, .slice Ao85 t265.length co85, .slice Ao86 t268.length co86] 31 (0, 0)) (by (with_reducible repeat (first | refine blk_drewN ?_ _ | refine blk_drew ?_ | refine blk_alloc ?_ _)); refine blk_put (cs := #[.slice Ao82 t262.length co82, .slice Ao85 t265.length co85, .slice none 0 0]) ?_ 2 _ rfl; (with_reducible repeat (first | refine blk_drewN ?_ _ | refine blk_drew ?_ | refine blk_alloc ?_ _)); refine blk_put (cs := #[.slice Ao82 t262.length co82, .slice none 0 0, .slice none 0 0]) ?_ 1 _ rfl; (with_reducible repeat (first | refine blk_drewN ?_ _ | refine blk_drew ?_ | refine blk_alloc ?_ _)); refine blk_put (cs := #[.slice none 0 0, .slice none 0 0, .slice none 0 0]) ?_ 0 _ rfl; (with_reducible repeat (first | refine blk_drewN ?_ _ | refine blk_drew ?_ | refine blk_alloc ?_ _)); exact BK272.out) hb); have n5_ := Aside0.mk (below_step tH hb); clear HO264; clear HO267; clear HO270; clear BK259; clear BK272; clear HB; have HO264 := n0_; have HO267 := n1_; have HO270 := n2_; have BK259 := n3_; have BK272 := n4_; have HB := n5_; clear n0_ n1_ n2_ n3_ n4_ n5_; (try clear hb); (try clear hb2); (try clear hk); (try clear hi); have hcz89_0 : w88.cell? ⟨gb272, 0, none⟩ = some (.slice Ao82 t262.length co82) := (blk_cell BK272.out 0).trans rfl; have hcz89_1 : w88.cell? ⟨gb272, 1, none⟩ = some (.slice Ao85 t265.length co85) := (blk_cell BK272.out 1).trans rfl; have hcz89_2 : w88.cell? ⟨gb272, 2, none⟩ = some (.slice Ao86 t268.length co86) := (blk_cell BK272.out 2).trans rfl; have hfz89_0 := blk_frozen BK272.out 0; have hfz89_1 := blk_frozen BK272.out 1; have hfz89_2 := blk_frozen BK272.out 2; have hcz90_0 : w88.cell? ⟨gb259, 0, none⟩ = some (.slice A0_0 l0_0.length c0_0) := (blk_cell BK259.out 0).trans rfl; have hcz90_1 : w88.cell? ⟨gb259, 1, none⟩ = some (.slice A0_1 l0_1.length c0_1) := (blk_cell BK259.out 1).trans rfl; have hcz90_2 : w88.cell? ⟨gb259, 2, none⟩ = some (.slice A0_2 l0_2.length c0_2) := (blk_cell BK259.out 2).trans rfl; have hfz90_0 := blk_frozen BK259.out 0; have hfz90_1 := blk_frozen BK259.out 1; have hfz90_2 := blk_frozen BK259.out 2) | ((with_reducible refine gate_callee (f := 10) rfl ?_); refine goesL_ (some 50) rfl rfl Try.func10 (by kernel_rfl) rfl #[.agg #[.slice Ao82 t262.length co82, .slice Ao85 t265.length co85, .slice Ao86 t268.length co86], .slice A0_1 l0_1.length c0_1, .slice A0_2 l0_2.length c0_2] rfl (by (try simp only [List.map_toArray, List.map_cons, List.map_nil]); first | done | rfl | (simp only [List.length_drop, List.length_take]; rfl)) ?_; (with_reducible refine (eyewitnessref22_Wrong.calls kj1 _ _ t262 _ _ t265 _ _ t268 _ _ l0_1 _ _ l0_2 t276 t277 _ ?side1 ?side2 ?side3 ?side4 ?side5 ?side6 ?side7 ?side8 ?side9 ?side10 A21.out).mono ?_); (case side1 => exact tD (Kd.R_reads' HO264.out).2.2); (case side2 => exact (Kd.R_reads' HO264.out).2.1); (case side3 => exact tD (Kd.R_reads' HO267.out).2.2); (case side4 => exact (Kd.R_reads' HO267.out).2.1); (case side5 => exact tD (Kd.R_reads' HO270.out).2.2); (case side6 => exact (Kd.R_reads' HO270.out).2.1); (case side7 => exact tC HR0_1); (case side8 => exact HC0_1.out); (case side9 => exact tC HR0_2); (case side10 => exact HC0_2.out); rintro e w91 ⟨rfl, hb⟩; refine ⟨_, rfl, ?_⟩; have n0_ := Aside0.mk (Kd.R_below (tRr HO264) hb); have n1_ := Aside0.mk (Kd.R_below (tRr HO267) hb); have n2_ := Aside0.mk (Kd.R_below (tRr HO270) hb); have n3_ := Aside0.mk (blk_below (g := gb259) tB hb); have n4_ := Aside0.mk (blk_below (g := gb272) tB hb); have n5_ := Aside0.mk (below_step tH hb); clear HO264; clear HO267; clear HO270; clear BK259; clear BK272; clear HB; have HO264 := n0_; have HO267 := n1_; have HO270 := n2_; have BK259 := n3_; have BK272 := n4_; have HB := n5_; clear n0_ n1_ n2_ n3_ n4_ n5_; (try clear hb); (try clear hb2); (try clear hk); (try clear hi)))
      have n0_ := Aside0.mk (Kd.R_drew HO264.out)
      have n1_ := Aside0.mk (Kd.R_drew HO267.out)
      have n2_ := Aside0.mk (Kd.R_drew HO270.out)
      have n3_ := Aside0.mk (blk_drew BK259.out)
      have n4_ := Aside0.mk (blk_drew BK272.out)
      have n5_ := Aside0.mk (below_drew1 HB.out)
      clear HO264
      clear HO267
      clear HO270
      clear BK259
      clear BK272
      clear HB
      have HO264 := n0_
      have HO267 := n1_
      have HO270 := n2_
      have BK259 := n3_
      have BK272 := n4_
      have HB := n5_
      clear n0_ n1_ n2_ n3_ n4_ n5_
      refine start_ (n := 27) (S := fun w' => True) (ds := []) (bl 27 0) (by kernel_rfl) rfl rfl trivial (fun hHeld => ?_); refine with_tabW eyewitnesslaw22_RunTells.tab8 eyewitnesslaw22_RunTells.bits8 (fun HT_ HW_ => ?_)
      generalize w91.drew = w92 at HO264 HO267 HO270 BK259 BK272 HB hHeld ⊢
      refine one_ (i := 0) (N := some 53) (bl 27 1) rfl rfl (one_of HT_.out (by kernel_rfl)) (by decide) (fun K hK => ?_)
      refine goes_ Try.func7 (by kernel_rfl) rfl #[] (by rfl) rfl rfl (by (try simp only [List.map_toArray, List.map_cons, List.map_nil]); first | done | rfl | (simp only [List.length_drop, List.length_take]; rfl)) ?_
      with_reducible refine (eyewitnesslaw22_awake.calls kj1  false _ A22.out).mono ?_
      rintro e w93 ⟨rfl, hb⟩
      refine ⟨_, rfl, ?_⟩
      have n0_ := Aside0.mk (Kd.R_below (tRr HO264) hb)
      have n1_ := Aside0.mk (Kd.R_below (tRr HO267) hb)
      have n2_ := Aside0.mk (Kd.R_below (tRr HO270) hb)
      have n3_ := Aside0.mk (blk_below (g := gb259) tB hb)
      have n4_ := Aside0.mk (blk_below (g := gb272) tB hb)
      have n5_ := Aside0.mk (below_step tH hb)
      clear HO264
      clear HO267
      clear HO270
      clear BK259
      clear BK272
      clear HB
      have HO264 := n0_
      have HO267 := n1_
      have HO270 := n2_
      have BK259 := n3_
      have BK272 := n4_
      have HB := n5_
      clear n0_ n1_ n2_ n3_ n4_ n5_
      (try clear hb)
      (try clear hb2)
      (try clear hk)
      (try clear hi)
      refine hK.out _ _ trivial (fun hHeld => ?_)
      clear hK K
      refine norm_ (a' := ?_) ?_ ?_
      rotate_left
      ·show Act.put _ (some 53) _ = _
       simp only [Act.put, List.setIfInBounds_toArray, List.set_cons_zero, List.set_cons_succ, i64_w, i32_w]
       rfl
      refine pX 1 54 (bl 27 3) HT_ rfl rfl kA (fun _ _ _ h => h) yA hA ?_
      refine pU 2 55 (bl 27 7) HT_ rfl rfl kA (fun _ _ _ h => h) (by rfl) hA ?_
      refine pU 3 56 (bl 27 15) HT_ rfl rfl kA (fun _ _ _ h => h) (by rfl) hA ?_
      refine pU 4 57 (bl 27 31) HT_ rfl rfl kA (fun _ _ _ h => h) (by rfl) hA ?_
      refine pU 5 58 (bl 27 63) HT_ rfl rfl kA (fun _ _ _ h => h) (by rfl) hA ?_
      refine pU 6 59 (bl 27 127) HT_ rfl rfl kA (fun _ _ _ h => h) (by rfl) hA ?_
      refine pU 7 60 (bl 27 255) HT_ rfl rfl kA (fun _ _ _ h => h) (by rfl) hA ?_
      refine pU 8 61 (bl 27 511) HT_ rfl rfl kA (fun _ _ _ h => h) (by rfl) hA ?_
      refine pU 9 62 (bl 27 1023) HT_ rfl rfl kA (fun _ _ _ h => h) (by rfl) hA ?_
      refine pU 10 63 (bl 27 2047) HT_ rfl rfl kA (fun _ _ _ h => h) (by rfl) hA ?_
      refine pU 11 64 (bl 27 4095) HT_ rfl rfl kA (fun _ _ _ h => h) (by rfl) hA ?_
      refine pU 12 65 (bl 27 8191) HT_ rfl rfl kA (fun _ _ _ h => h) (by rfl) hA ?_
      refine pU 13 66 (bl 27 16383) HT_ rfl rfl kA (fun _ _ _ h => h) (by rfl) hA ?_
      refine pU 14 67 (bl 27 32767) HT_ rfl rfl kA (fun _ _ _ h => h) (by rfl) hA ?_
      refine pX 15 68 (bl 27 65535) HT_ rfl rfl kA (fun _ _ _ h => h) yA hA ?_
      refine pX 16 69 (bl 27 131071) HT_ rfl rfl kA (fun _ _ _ h => h) yA hA ?_
      refine pU 17 70 (bl 27 262143) HT_ rfl rfl kA (fun _ _ _ h => h) (by rfl) hA ?_
      refine pU 18 71 (bl 27 524287) HT_ rfl rfl kA (fun _ _ _ h => h) (by rfl) hA ?_
      refine pU 19 72 (bl 27 1048575) HT_ rfl rfl kA (fun _ _ _ h => h) (by rfl) hA ?_
      refine pX 20 73 (bl 27 2097151) HT_ rfl rfl kA (fun _ _ _ h => h) yA hA ?_
      refine pX 21 74 (bl 27 4194303) HT_ rfl rfl kA (fun _ _ _ h => h) yA hA ?_
      refine pU 22 75 (bl 27 8388607) HT_ rfl rfl kA (fun _ _ _ h => h) (by rfl) hA ?_
      refine pU 23 76 (bl 27 16777215) HT_ rfl rfl kA (fun _ _ _ h => h) (by rfl) hA ?_
      refine pU 24 77 (bl 27 33554431) HT_ rfl rfl kA (fun _ _ _ h => h) (by rfl) hA ?_
      refine pX 25 78 (bl 27 67108863) HT_ rfl rfl kA (fun _ _ _ h => h) yA hA ?_
      refine pX 26 2 (bl 27 134217727) HT_ rfl rfl kA (fun _ _ _ h => h) yA hA ?_
      refine done_ (done_of HT_.out (by kernel_rfl)) ?_
      try go_wp2
      go_ret
      exact ⟨by first | rfl | (simp [errW_none, errW_some] <;> rfl) | (simp [*, errW_none, errW_some] <;> rfl), tH⟩
    ·replace c19 := Bool.eq_false_iff.mpr c19
     subst c19
     have H1 : ((eyewitnesslaw22_awake.f kj1).bind fun t273 => (some t273)) = some r := by rw [if_neg (show ¬ (false = true) by decide)] at H; exact H
     clear H
     have H := H1
     clear H1
     replace H := Option.bind_eq_some_iff.mp H
     obtain ⟨t273, A940, H⟩ := H
     replace H : (some t273) = some r := H
     have A94 := Aside0.mk A940
     clear A940
     obtain rfl := Option.some.inj H
     have hcz95_0 : wc.cell? ⟨gb259, 0, none⟩ = some (.slice A0_0 l0_0.length c0_0) := (blk_cell BK259.out 0).trans rfl
     have hcz95_1 : wc.cell? ⟨gb259, 1, none⟩ = some (.slice A0_1 l0_1.length c0_1) := (blk_cell BK259.out 1).trans rfl
     have hcz95_2 : wc.cell? ⟨gb259, 2, none⟩ = some (.slice A0_2 l0_2.length c0_2) := (blk_cell BK259.out 2).trans rfl
     have hfz95_0 := blk_frozen BK259.out 0
     have hfz95_1 := blk_frozen BK259.out 1
     have hfz95_2 := blk_frozen BK259.out 2
     go_wp2_with (first | ((with_reducible refine gate_callee (f := 8) rfl ?_); refine goesL_ (some 29) rfl rfl Try.func8 (by kernel_rfl) rfl #[.slice A0_0 l0_0.length c0_0] rfl (by (try simp only [List.map_toArray, List.map_cons, List.map_nil]); first | done | rfl | (simp only [List.length_drop, List.length_take]; rfl)) ?_; (with_reducible refine (eyewitnessref11_Of.calls kj1 _ _ l0_0 t262 t265 t268 false _ ?side1 ?side2 A18.out).mono ?_); (case side1 => exact tC HR0_0); (case side2 => exact HC0_0.out); rintro e w96 ⟨v263, v266, v269, rfl, ho0, ho1, ho2, hb⟩; refine ⟨_, rfl, ?_⟩; have n0_ := Aside0.mk (Kd.R_lower ho0 (below_size tH)); have n1_ := Aside0.mk (Kd.R_lower ho1 (below_size tH)); have n2_ := Aside0.mk (Kd.R_lower ho2 (below_size tH)); have n3_ := Aside0.mk (blk_below (g := gb259) tB hb); have n4_ := Aside0.mk (below_step tH hb); clear BK259; clear HB; have HO264 := n0_; have HO267 := n1_; have HO270 := n2_; have BK259 := n3_; have HB := n4_; clear n0_ n1_ n2_ n3_ n4_; (try clear hb); (try clear hb2); (try clear hk); (try clear hi); (try clear ho0); (try clear ho1); (try clear ho2)) | ((with_reducible refine gate_dst (N := 3) rfl ?_); (try (refine gate_guard (by rfl) ?_; dsimp only)); refine box_event ?hg (N := 3) ?hd (cs := #[.slice none 0 0, .slice none 0 0, .slice none 0 0]) (t := 31) ?hr ?_; (case hd => rfl); (case hg => rfl); (case hr => first | (go_simp; done) | (go_simp; rfl)); intro gb272 hg w97 hbox hb; have n0_ := Aside0.mk (Kd.R_below (tRr HO264) hb); have n1_ := Aside0.mk (Kd.R_below (tRr HO267) hb); have n2_ := Aside0.mk (Kd.R_below (tRr HO270) hb); have n3_ := Aside0.mk (blk_below (g := gb259) tB hb); have n4_ := Aside0.mk (below_step tH hb); have n5_ := Aside0.mk (hbox); have n6_ := Aside0.mk ((by rw [hg]; exact (below_size tH) : w.heap.size ≤ gb272)); have n7_ := Aside0.mk ((by rw [hg]; exact (below_size tH) : w.heap.size ≤ gb272)); have n8_ := Aside0.mk ((by rw [hg]; exact Nat.ne_of_lt (blk_lt (g := gb259) tB) : gb259 ≠ gb272)); have n9_ := Aside0.mk ((by rw [hg]; exact Nat.ne_of_gt (blk_lt (g := gb259) tB) : gb272 ≠ gb259)); clear HO264; clear HO267; clear HO270; clear BK259; clear HB; have HO264 := n0_; have HO267 := n1_; have HO270 := n2_; have BK259 := n3_; have HB := n4_; have BK272 := n5_; have GW272 := n6_; have GE272 := n7_; have NB259_272 := n8_; have NB272_259 := n9_; clear n0_ n1_ n2_ n3_ n4_ n5_ n6_ n7_ n8_ n9_; clear hb hbox hg; obtain ⟨Ao98, co98, eo98⟩ := Kd.R_slice HO264.out; subst eo98; have hnb99 := NB272_259.out; have hnc99 := NB259_272.out; have hcz100_0 : w97.cell? ⟨gb272, 0, none⟩ = some (.slice none 0 0) := (blk_cell BK272.out 0).trans rfl; have hcz100_1 : w97.cell? ⟨gb272, 1, none⟩ = some (.slice none 0 0) := (blk_cell BK272.out 1).trans rfl; have hcz100_2 : w97.cell? ⟨gb272, 2, none⟩ = some (.slice none 0 0) := (blk_cell BK272.out 2).trans rfl; have hfz100_0 := blk_frozen BK272.out 0; have hfz100_1 := blk_frozen BK272.out 1; have hfz100_2 := blk_frozen BK272.out 2; obtain ⟨Ao101, co101, eo101⟩ := Kd.R_slice HO267.out; subst eo101; obtain ⟨Ao102, co102, eo102⟩ := Kd.R_slice HO270.out; subst eo102) | ((with_reducible refine gate_callee (f := 7) rfl ?_); refine goesL_ (some 34) rfl rfl Try.func7 (by kernel_rfl) rfl #[] rfl (by (try simp only [List.map_toArray, List.map_cons, List.map_nil]); first | done | rfl | (simp only [List.length_drop, List.length_take]; rfl)) ?_; (with_reducible refine (eyewitnesslaw22_awake.calls kj1  t273 _ A94.out).mono ?_); rintro e w103 ⟨rfl, hb⟩; refine ⟨_, rfl, ?_⟩; have n0_ := Aside0.mk (Kd.R_below (by (with_reducible repeat (first | apply Kd.R_alloc | apply Kd.R_drewN | apply Kd.R_drew)); exact (Kd.R_mono (Kd.R_far (p := ⟨gb272, 2, none⟩) (Kd.R_far (p := ⟨gb272, 1, none⟩) (Kd.R_far (p := ⟨gb272, 0, none⟩) (Kd.R_types HO264.out BK272.out (by decide)) (fun _ hk => hk.2) (.slice Ao98 t262.length co98)) (fun _ hk => hk.2) (.slice Ao101 t265.length co101)) (fun _ hk => hk.2) (.slice Ao102 t268.length co102)) (fun _ h_ => h_.1))) hb); have n1_ := Aside0.mk (Kd.R_below (by (with_reducible repeat (first | apply Kd.R_alloc | apply Kd.R_drewN | apply Kd.R_drew)); exact (Kd.R_mono (Kd.R_far (p := ⟨gb272, 2, none⟩) (Kd.R_far (p := ⟨gb272, 1, none⟩) (Kd.R_far (p := ⟨gb272, 0, none⟩) (Kd.R_types HO267.out BK272.out (by decide)) (fun _ hk => hk.2) (.slice Ao98 t262.length co98)) (fun _ hk => hk.2) (.slice Ao101 t265.length co101)) (fun _ hk => hk.2) (.slice Ao102 t268.length co102)) (fun _ h_ => h_.1))) hb); have n2_ := Aside0.mk (Kd.R_below (by (with_reducible repeat (first | apply Kd.R_alloc | apply Kd.R_drewN | apply Kd.R_drew)); exact (Kd.R_mono (Kd.R_far (p := ⟨gb272, 2, none⟩) (Kd.R_far (p := ⟨gb272, 1, none⟩) (Kd.R_far (p := ⟨gb272, 0, none⟩) (Kd.R_types HO270.out BK272.out (by decide)) (fun _ hk => hk.2) (.slice Ao98 t262.length co98)) (fun _ hk => hk.2) (.slice Ao101 t265.length co101)) (fun _ hk => hk.2) (.slice Ao102 t268.length co102)) (fun _ h_ => h_.1))) hb); have n3_ := Aside0.mk (blk_below (g := gb259) (o := .cells #[.slice A0_0 l0_0.length c0_0, .slice A0_1 l0_1.length c0_1, .slice A0_2 l0_2.length c0_2] 25 (0, 0)) (by (with_reducible repeat (first | refine blk_drewN ?_ _ | refine blk_drew ?_ | refine blk_alloc ?_ _)); refine blk_far ?_ NB259_272.out _; (with_reducible repeat (first | refine blk_drewN ?_ _ | refine blk_drew ?_ | refine blk_alloc ?_ _)); refine blk_far ?_ NB259_272.out _; (with_reducible repeat (first | refine blk_drewN ?_ _ | refine blk_drew ?_ | refine blk_alloc ?_ _)); refine blk_far ?_ NB259_272.out _; (with_reducible repeat (first | refine blk_drewN ?_ _ | refine blk_drew ?_ | refine blk_alloc ?_ _)); exact BK259.out) hb); have n4_ := Aside0.mk (blk_below (g := gb272) (o := .cells #[.slice Ao98 t262.length co98, .slice Ao101 t265.length co101, .slice Ao102 t268.length co102] 31 (0, 0)) (by (with_reducible repeat (first | refine blk_drewN ?_ _ | refine blk_drew ?_ | refine blk_alloc ?_ _)); refine blk_put (cs := #[.slice Ao98 t262.length co98, .slice Ao101 t265.length co101, .slice none 0 0]) ?_ 2 _ rfl; (with_reducible repeat (first | refine blk_drewN ?_ _ | refine blk_drew ?_ | refine blk_alloc ?_ _)); refine blk_put (cs := #[.slice Ao98 t262.length co98, .slice none 0 0, .slice none 0 0]) ?_ 1 _ rfl; (with_reducible repeat (first | refine blk_drewN ?_ _ | refine blk_drew ?_ | refine blk_alloc ?_ _)); refine blk_put (cs := #[.slice none 0 0, .slice none 0 0, .slice none 0 0]) ?_ 0 _ rfl; (with_reducible repeat (first | refine blk_drewN ?_ _ | refine blk_drew ?_ | refine blk_alloc ?_ _)); exact BK272.out) hb); have n5_ := Aside0.mk (below_step tH hb); clear HO264; clear HO267; clear HO270; clear BK259; clear BK272; clear HB; have HO264 := n0_; have HO267 := n1_; have HO270 := n2_; have BK259 := n3_; have BK272 := n4_; have HB := n5_; clear n0_ n1_ n2_ n3_ n4_ n5_; (try clear hb); (try clear hb2); (try clear hk); (try clear hi)))
     go_ret
     exact ⟨by first | rfl | (simp [errW_none, errW_some] <;> rfl) | (simp [*, errW_none, errW_some] <;> rfl), tH⟩

end Go.Proofs.Ytcnjnollmamifaa.P
