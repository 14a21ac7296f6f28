-- written by a program (wip/tools/pr.py: the kit's print over this seat)
import Derived.Test.YtcnjnollmamifaaPKinds
import Derived.Test.YtcnjnollmamifaaPRef06Small
import Derived.Test.YtcnjnollmamifaaPRef11Of
import Derived.Test.YtcnjnollmamifaaPLaw22Awake
import Derived.Test.YtcnjnollmamifaaSRun
namespace Go.Proofs.Ytcnjnollmamifaa.P
open Go.RowKit Go.Proofs.YtcnjnollmamifaaW.PrintWords Go.Proofs.YtcnjnollmamifaaW.PrintLast Go.Proofs.YtcnjnollmamifaaW.PrintMore
attribute [local go_sem] max2_int min2_int max_two min_two max_three min_three max_four min_four   -- for this text's walks alone
set_option linter.unusedVariables false
set_option linter.unusedSimpArgs false

/-! ### eyewitnesslaw22_RunSwaps: function 5 -/
mutual
def eyewitnesslaw22_RunSwaps.j0 : Nat → Int → Bool → List (List (S45)) → List Int → List Int → Option (Bool)
 | 0, _, _, _, _, _ => none
 | k + 1, x1, x32, x302000, x302001, x302002 => if x32 = true then ((eyewitnesslaw22_awake.f k).bind fun t303 => (some t303)) else ((eyewitnessref11_Of.f k x302000).bind fun bt304 => (if (wrap64 ((x302001.length : Int) - 1)) = 0 then (none) else (if 0 ≤ (Int.tmod (wrap64 (x1)) (wrap64 ((x302001.length : Int) - 1))) then (if (Int.tmod (wrap64 (x1)) (wrap64 ((x302001.length : Int) - 1))) < (x302001.length : Int) then (if 0 ≤ (wrap64 ((Int.tmod (wrap64 (x1)) (wrap64 ((x302001.length : Int) - 1))) + 1)) then (if (wrap64 ((Int.tmod (wrap64 (x1)) (wrap64 ((x302001.length : Int) - 1))) + 1)) < (x302001.length : Int) then (if bt304.2.2.2 = true then (if (rd x302001 (Int.tmod (wrap64 (x1)) (wrap64 ((x302001.length : Int) - 1)))) < 0 then (eyewitnesslaw22_RunSwaps.j1 k (Int.tmod (wrap64 (x1)) (wrap64 ((x302001.length : Int) - 1))) (rd x302001 (Int.tmod (wrap64 (x1)) (wrap64 ((x302001.length : Int) - 1)))) (rd x302001 (wrap64 ((Int.tmod (wrap64 (x1)) (wrap64 ((x302001.length : Int) - 1))) + 1))) true x302000 x302001 x302002 bt304.1 bt304.2.1 bt304.2.2.1) else (if (rd x302001 (wrap64 ((Int.tmod (wrap64 (x1)) (wrap64 ((x302001.length : Int) - 1))) + 1))) < 0 then (eyewitnesslaw22_RunSwaps.j1 k (Int.tmod (wrap64 (x1)) (wrap64 ((x302001.length : Int) - 1))) (rd x302001 (Int.tmod (wrap64 (x1)) (wrap64 ((x302001.length : Int) - 1)))) (rd x302001 (wrap64 ((Int.tmod (wrap64 (x1)) (wrap64 ((x302001.length : Int) - 1))) + 1))) true x302000 x302001 x302002 bt304.1 bt304.2.1 bt304.2.2.1) else (if (rd x302001 (Int.tmod (wrap64 (x1)) (wrap64 ((x302001.length : Int) - 1)))) ≥ (bt304.2.1.length : Int) then (eyewitnesslaw22_RunSwaps.j1 k (Int.tmod (wrap64 (x1)) (wrap64 ((x302001.length : Int) - 1))) (rd x302001 (Int.tmod (wrap64 (x1)) (wrap64 ((x302001.length : Int) - 1)))) (rd x302001 (wrap64 ((Int.tmod (wrap64 (x1)) (wrap64 ((x302001.length : Int) - 1))) + 1))) true x302000 x302001 x302002 bt304.1 bt304.2.1 bt304.2.2.1) else (if (rd x302001 (wrap64 ((Int.tmod (wrap64 (x1)) (wrap64 ((x302001.length : Int) - 1))) + 1))) ≥ (bt304.2.1.length : Int) then (eyewitnesslaw22_RunSwaps.j1 k (Int.tmod (wrap64 (x1)) (wrap64 ((x302001.length : Int) - 1))) (rd x302001 (Int.tmod (wrap64 (x1)) (wrap64 ((x302001.length : Int) - 1)))) (rd x302001 (wrap64 ((Int.tmod (wrap64 (x1)) (wrap64 ((x302001.length : Int) - 1))) + 1))) true x302000 x302001 x302002 bt304.1 bt304.2.1 bt304.2.2.1) else (if 0 ≤ (rd x302001 (Int.tmod (wrap64 (x1)) (wrap64 ((x302001.length : Int) - 1)))) then (if (rd x302001 (Int.tmod (wrap64 (x1)) (wrap64 ((x302001.length : Int) - 1)))) < (bt304.2.1.length : Int) then (if 0 ≤ (rd x302001 (wrap64 ((Int.tmod (wrap64 (x1)) (wrap64 ((x302001.length : Int) - 1))) + 1))) then (if (rd x302001 (wrap64 ((Int.tmod (wrap64 (x1)) (wrap64 ((x302001.length : Int) - 1))) + 1))) < (bt304.2.1.length : Int) then (eyewitnesslaw22_RunSwaps.j1 k (Int.tmod (wrap64 (x1)) (wrap64 ((x302001.length : Int) - 1))) (rd x302001 (Int.tmod (wrap64 (x1)) (wrap64 ((x302001.length : Int) - 1)))) (rd x302001 (wrap64 ((Int.tmod (wrap64 (x1)) (wrap64 ((x302001.length : Int) - 1))) + 1))) (((rd_T40 bt304.2.1 (rd x302001 (Int.tmod (wrap64 (x1)) (wrap64 ((x302001.length : Int) - 1))))).f3) == ((rd_T40 bt304.2.1 (rd x302001 (wrap64 ((Int.tmod (wrap64 (x1)) (wrap64 ((x302001.length : Int) - 1))) + 1)))).f3)) x302000 x302001 x302002 bt304.1 bt304.2.1 bt304.2.2.1) else (none)) else (none)) else (none)) else (none)))))) else (eyewitnesslaw22_RunSwaps.j1 k (Int.tmod (wrap64 (x1)) (wrap64 ((x302001.length : Int) - 1))) (rd x302001 (Int.tmod (wrap64 (x1)) (wrap64 ((x302001.length : Int) - 1)))) (rd x302001 (wrap64 ((Int.tmod (wrap64 (x1)) (wrap64 ((x302001.length : Int) - 1))) + 1))) true x302000 x302001 x302002 bt304.1 bt304.2.1 bt304.2.2.1)) else (none)) else (none)) else (none)) else (none))))
def eyewitnesslaw22_RunSwaps.j1 : Nat → Int → Int → Int → Bool → List (List (S45)) → List Int → List Int → List ByteArray → List (S40) → List Int → Option (Bool)
 | 0, _, _, _, _, _, _, _, _, _, _ => none
 | k + 1, x7, x8, x9, x96, x302000, x302001, x302002, x315000, x315001, x315002 => if x96 = true then ((eyewitnesslaw22_awake.f k).bind fun t319 => (some t319)) else ((some (([] : List Int) : List Int)).bind fun y320 => (if y320.length + x302001.length < 17592186044416 then ((some (y320 ++ x302001 : List Int)).bind fun y323 => (if 0 ≤ x7 then (if x7 < (y323.length : Int) then (if 0 ≤ (wrap64 (x7 + 1)) then (if (wrap64 (x7 + 1)) < (y323.length : Int) then ((eyewitnesslaw22_awake.f k).bind fun t328 => (if t328 = true then ((run_Legal.f x315000 x315001 x315002 x302001 x302002).bind fun t329 => ((run_Legal.f x315000 x315001 x315002 ((y323.set (x7 : Int).toNat x9).set ((wrap64 (x7 + 1)) : Int).toNat x8) x302002).bind fun t330 => (some (t329 == t330)))) else (some false))) else (none)) else (none)) else (none)) else (none))) else (none)))
end
def eyewitnesslaw22_RunSwaps.f (k : Nat) (l0_0 : List (List (S45))) (l0_1 : List Int) (l0_2 : List Int) (a1 : Int) : Option (Bool) := (eyewitnessref06_Small.f k l0_0 30).bind fun t302 => (if t302 = true then (if (l0_1.length : Int) > 40 then (eyewitnesslaw22_RunSwaps.j0 k a1 true l0_0 l0_1 l0_2) else (if (l0_2.length : Int) > 40 then (eyewitnesslaw22_RunSwaps.j0 k a1 true l0_0 l0_1 l0_2) else (eyewitnesslaw22_RunSwaps.j0 k a1 (decide ((l0_1.length : Int) < 2)) l0_0 l0_1 l0_2))) else (eyewitnesslaw22_RunSwaps.j0 k a1 true l0_0 l0_1 l0_2))
theorem eyewitnesslaw22_RunSwaps.mono_l : ∀ k, (∀ y0 y1 y2 y3 y4, LeO (eyewitnesslaw22_RunSwaps.j0 k y0 y1 y2 y3 y4) (eyewitnesslaw22_RunSwaps.j0 (k + 1) y0 y1 y2 y3 y4)) ∧ (∀ y0 y1 y2 y3 y4 y5 y6 y7 y8 y9, LeO (eyewitnesslaw22_RunSwaps.j1 k y0 y1 y2 y3 y4 y5 y6 y7 y8 y9) (eyewitnesslaw22_RunSwaps.j1 (k + 1) y0 y1 y2 y3 y4 y5 y6 y7 y8 y9))
 | 0 => ⟨fun _ _ _ _ _ r h => by simp [eyewitnesslaw22_RunSwaps.j0] at h, fun _ _ _ _ _ _ _ _ _ _ r h => by simp [eyewitnesslaw22_RunSwaps.j1] at h⟩
 | k + 1 => by
  obtain ⟨ih0, ih1⟩ := eyewitnesslaw22_RunSwaps.mono_l k
  refine ⟨?_, ?_⟩
  ·intro y0 y1 y2 y3 y4
   unfold eyewitnesslaw22_RunSwaps.j0
   repeat' first
   | (with_reducible exact ih0 _ _ _ _ _)
   | (with_reducible exact ih1 _ _ _ _ _ _ _ _ _ _)
   | (with_reducible exact eyewitnesslaw22_awake.mono _)
   | (with_reducible exact eyewitnessref06_Small.mono _ _ _)
   | (with_reducible exact eyewitnessref11_Of.mono _ _)
   | (with_reducible exact LeO.refl _)
   | (with_reducible exact LeO.none _)
   | (with_reducible refine LeO.ite ?_ ?_)
   | (with_reducible refine LeO.bind ?_ (fun _ => ?_))
   | exact ih0 _ _ _ _ _
   | exact ih1 _ _ _ _ _ _ _ _ _ _
   | exact eyewitnesslaw22_awake.mono _
   | exact eyewitnessref06_Small.mono _ _ _
   | exact eyewitnessref11_Of.mono _ _
   | exact LeO.none _
   | refine LeO.ite ?_ ?_
   | refine LeO.bind ?_ (fun _ => ?_)
  ·intro y0 y1 y2 y3 y4 y5 y6 y7 y8 y9
   unfold eyewitnesslaw22_RunSwaps.j1
   repeat' first
   | (with_reducible exact ih0 _ _ _ _ _)
   | (with_reducible exact ih1 _ _ _ _ _ _ _ _ _ _)
   | (with_reducible exact eyewitnesslaw22_awake.mono _)
   | (with_reducible exact eyewitnessref06_Small.mono _ _ _)
   | (with_reducible exact eyewitnessref11_Of.mono _ _)
   | (with_reducible exact LeO.refl _)
   | (with_reducible exact LeO.none _)
   | (with_reducible refine LeO.ite ?_ ?_)
   | (with_reducible refine LeO.bind ?_ (fun _ => ?_))
   | exact ih0 _ _ _ _ _
   | exact ih1 _ _ _ _ _ _ _ _ _ _
   | exact eyewitnesslaw22_awake.mono _
   | exact eyewitnessref06_Small.mono _ _ _
   | exact eyewitnessref11_Of.mono _ _
   | exact LeO.none _
   | refine LeO.ite ?_ ?_
   | refine LeO.bind ?_ (fun _ => ?_)
theorem eyewitnesslaw22_RunSwaps.mono : ∀ a0 a1 a2 a3 k, LeO (eyewitnesslaw22_RunSwaps.f k a0 a1 a2 a3) (eyewitnesslaw22_RunSwaps.f (k + 1) a0 a1 a2 a3) := by
 intro a0 a1 a2 a3 k
 obtain ⟨ih0, ih1⟩ := eyewitnesslaw22_RunSwaps.mono_l k
 unfold eyewitnesslaw22_RunSwaps.f
 repeat' first
   | (with_reducible exact ih0 _ _ _ _ _)
   | (with_reducible exact ih1 _ _ _ _ _ _ _ _ _ _)
   | (with_reducible exact eyewitnesslaw22_awake.mono _)
   | (with_reducible exact eyewitnessref06_Small.mono _ _ _)
   | (with_reducible exact eyewitnessref11_Of.mono _ _)
   | (with_reducible exact LeO.refl _)
   | (with_reducible exact LeO.none _)
   | (with_reducible refine LeO.ite ?_ ?_)
   | (with_reducible refine LeO.bind ?_ (fun _ => ?_))
   | exact ih0 _ _ _ _ _
   | exact ih1 _ _ _ _ _ _ _ _ _ _
   | exact eyewitnesslaw22_awake.mono _
   | exact eyewitnessref06_Small.mono _ _ _
   | exact eyewitnessref11_Of.mono _ _
   | exact LeO.none _
   | refine LeO.ite ?_ ?_
   | refine LeO.bind ?_ (fun _ => ?_)
def eyewitnesslaw22_RunSwaps.T5 : Bool × List (List Nat × List Nat) := (true, [([], []), ([0], [0]), ([], []), ([1, 2], [1, 2]), ([3], [3]), ([], []), ([5], [5]), ([], []), ([7], [7]), ([6, 8], [6, 8]), ([9], [9]), ([4, 0, 1, 2, 3, 4], [4]), ([10, 11, 0, 1, 2, 3, 4, 5, 6, 7, 8, 9, 10, 11], [10])])
def eyewitnesslaw22_RunSwaps.B5 : List Nat := [0, 1, 0, 7, 15, 0, 32, 0, 128, 480, 992, 31, 4095]
theorem eyewitnesslaw22_RunSwaps.tab5 : rtab .any (opsOf Try.f5 5) = eyewitnesslaw22_RunSwaps.T5 := by kernel_rfl
theorem eyewitnesslaw22_RunSwaps.bits5 : waitsOk eyewitnesslaw22_RunSwaps.T5.2 eyewitnesslaw22_RunSwaps.B5 = true := by kernel_rfl
def eyewitnesslaw22_RunSwaps.T6 : Bool × List (List Nat × List Nat) := (true, [([], []), ([0], [0]), ([1], [1]), ([2], [2]), ([3, 2], [2, 3]), ([2, 4], [2, 4]), ([5, 2], [5]), ([6], [6]), ([7, 6], [6, 7]), ([6, 8], [6, 8]), ([9, 6], [9]), ([10], [10]), ([10], [10]), ([12, 10], [10, 12]), ([13, 10], [10, 13]), ([11, 14, 10], [10, 11, 14]), ([10, 15], [10, 15]), ([16, 10], [16]), ([17], [17]), ([17], [17]), ([19, 17], [17, 19]), ([20, 17], [17, 20]), ([18, 21, 17], [17, 18, 21]), ([17, 22], [17, 22]), ([23, 17], [23]), ([24], [24]), ([25, 24], [24, 25]), ([24], [24]), ([26, 27, 24], [24, 26, 27]), ([28, 24], [24, 28]), ([29, 24], [24, 29]), ([24], [24]), ([31, 24], [24, 31]), ([24], [24]), ([32, 33, 24], [24, 32, 33]), ([34, 24], [24, 34]), ([35, 24], [24, 35]), ([30, 36, 24], [24, 30, 36]), ([24, 37], [24, 37])])
def eyewitnesslaw22_RunSwaps.B6 : List Nat := [0, 1, 3, 7, 15, 31, 63, 127, 255, 511, 1023, 2047, 2047, 6143, 14335, 32767, 65535, 131071, 262143, 262143, 786431, 1835007, 4194303, 8388607, 16777215, 33554431, 67108863, 33554431, 268435455, 536870911, 1073741823, 33554431, 2181038079, 33554431, 15065939967, 32245809151, 66605547519, 137438953471, 274877906943]
theorem eyewitnesslaw22_RunSwaps.tab6 : rtab .any (opsOf Try.f5 6) = eyewitnesslaw22_RunSwaps.T6 := by kernel_rfl
theorem eyewitnesslaw22_RunSwaps.bits6 : waitsOk eyewitnesslaw22_RunSwaps.T6.2 eyewitnesslaw22_RunSwaps.B6 = true := by kernel_rfl
def eyewitnesslaw22_RunSwaps.T10 : Bool × List (List Nat × List Nat) := (true, [([], []), ([0, 0], [0]), ([1], [1]), ([1], [1]), ([3, 1], [1, 3]), ([1], [1]), ([5, 1], [1, 5]), ([2, 4, 6, 1, 1], [1, 2, 4, 6]), ([1], [1]), ([1], [1]), ([1], [1]), ([10, 1], [1, 10]), ([8, 9, 11, 7, 1], [1, 8, 9, 11]), ([7, 12, 1], [1, 7, 12]), ([1, 13], [1, 13]), ([14, 12, 0, 1, 2, 3, 4, 5, 6, 7, 8, 9, 10, 11, 12, 13, 14], [14])])
def eyewitnesslaw22_RunSwaps.B10 : List Nat := [0, 1, 3, 3, 11, 3, 35, 127, 3, 3, 3, 1027, 4095, 8191, 16383, 32767]
theorem eyewitnesslaw22_RunSwaps.tab10 : rtab .any (opsOf Try.f5 10) = eyewitnesslaw22_RunSwaps.T10 := by kernel_rfl
theorem eyewitnesslaw22_RunSwaps.bits10 : waitsOk eyewitnesslaw22_RunSwaps.T10.2 eyewitnesslaw22_RunSwaps.B10 = true := by kernel_rfl
set_option maxHeartbeats 8000000 in
set_option maxRecDepth 100000 in
theorem eyewitnesslaw22_RunSwaps.calls (k : Nat) (A0_0 : Option Addr) (c0_0 : Nat) (l0_0 : List (List (S45))) (A0_1 : Option Addr) (c0_1 : Nat) (l0_1 : List Int) (A0_2 : Option Addr) (c0_2 : Nat) (l0_2 : List Int) (a1 : Int) (r : Bool) (w : World) (hr0_0 : Kd.C (Kd.slice 45 k45) w A0_0 l0_0.length l0_0) (hc0_0 : l0_0.length ≤ c0_0) (hr0_1 : Kd.C (Kd.int .i64) w A0_1 l0_1.length l0_1) (hc0_1 : l0_1.length ≤ c0_1) (hr0_2 : Kd.C (Kd.int .i64) w A0_2 l0_2.length l0_2) (hc0_2 : l0_2.length ≤ c0_2) (h : eyewitnesslaw22_RunSwaps.f k l0_0 l0_1 l0_2 a1 = some r) :
  Calls Try.prog 5 #[.agg #[.slice A0_0 l0_0.length c0_0, .slice A0_1 l0_1.length c0_1, .slice A0_2 l0_2.length c0_2], .int .u8 a1] w fun e w' => e = .returned (.bool r) ∧ Below w.heap.size w w' := by
 have hu25 := Try.underlying25
 have hu31 := Try.underlying31
 have HR0_0 := Aside0.mk hr0_0
 have HC0_0 := Aside0.mk hc0_0
 clear hr0_0 hc0_0
 have HR0_1 := Aside0.mk hr0_1
 have HC0_1 := Aside0.mk hc0_1
 clear hr0_1 hc0_1
 have HR0_2 := Aside0.mk hr0_2
 have HC0_2 := Aside0.mk hc0_2
 clear hr0_2 hc0_2
 have HB := Aside0.mk (Below.refl w.heap.size w)
 have H : ((eyewitnessref06_Small.f k l0_0 30).bind fun t302 => (if t302 = true then (if (l0_1.length : Int) > 40 then (eyewitnesslaw22_RunSwaps.j0 k a1 true l0_0 l0_1 l0_2) else (if (l0_2.length : Int) > 40 then (eyewitnesslaw22_RunSwaps.j0 k a1 true l0_0 l0_1 l0_2) else (eyewitnesslaw22_RunSwaps.j0 k a1 (decide ((l0_1.length : Int) < 2)) l0_0 l0_1 l0_2))) else (eyewitnesslaw22_RunSwaps.j0 k a1 true l0_0 l0_1 l0_2))) = some r := h
 clear h
 have HC3 := Aside0.mk H
 clear H
 go_enter Try.func5, Try.ntmps5
 go_upto_region 1 with (first | ((with_reducible refine gate_dst (N := 2) rfl ?_); (try (refine gate_guard (by rfl) ?_; dsimp only)); refine box_event ?hg (N := 2) ?hd (cs := #[.slice A0_0 l0_0.length c0_0, .slice A0_1 l0_1.length c0_1, .slice A0_2 l0_2.length c0_2]) (t := 25) ?hr ?_; (case hd => rfl); (case hg => rfl); (case hr => first | (go_simp; done) | (go_simp; rfl)); intro gb301 hg w4 hbox hb; have n0_ := Aside0.mk (below_step tH hb); have n1_ := Aside0.mk (hbox); have n2_ := Aside0.mk ((by rw [hg]; exact (below_size tH) : w.heap.size ≤ gb301)); have n3_ := Aside0.mk ((by rw [hg]; exact (below_size tH) : w.heap.size ≤ gb301)); clear HB; have HB := n0_; have BK301 := n1_; have GW301 := n2_; have GE301 := n3_; clear n0_ n1_ n2_ n3_; clear hb hbox hg))
 (try simp only [Act.put, List.setIfInBounds_toArray, List.set_cons_zero, List.set_cons_succ])
 go_cut [32] (fun v32 wc => ∃ (kq : Nat) (x32_2 : Bool), v32 = .bool x32_2 ∧ Aside0 (eyewitnesslaw22_RunSwaps.j0 kq a1 x32_2 l0_0 l0_1 l0_2 = some r) ∧ Aside0 (kq ≤ k) ∧ Aside0 (wc.heap[gb301]? = some (.cells #[(.slice A0_0 l0_0.length c0_0), (.slice A0_1 l0_1.length c0_1), (.slice A0_2 l0_2.length c0_2)] 25 (0, 0))) ∧ Aside0 (Below w.heap.size w wc))
 case first =>
  have H := HC3.out
  clear HC3
  replace H := Option.bind_eq_some_iff.mp H
  obtain ⟨t302, A50, H⟩ := H
  replace H : (if t302 = true then (if (l0_1.length : Int) > 40 then (eyewitnesslaw22_RunSwaps.j0 k a1 true l0_0 l0_1 l0_2) else (if (l0_2.length : Int) > 40 then (eyewitnesslaw22_RunSwaps.j0 k a1 true l0_0 l0_1 l0_2) else (eyewitnesslaw22_RunSwaps.j0 k a1 (decide ((l0_1.length : Int) < 2)) l0_0 l0_1 l0_2))) else (eyewitnesslaw22_RunSwaps.j0 k a1 true l0_0 l0_1 l0_2)) = some r := H
  have A5 := Aside0.mk A50
  clear A50
  by_cases c6 : t302 = true
  ·subst c6
   have H1 : (if (l0_1.length : Int) > 40 then (eyewitnesslaw22_RunSwaps.j0 k a1 true l0_0 l0_1 l0_2) else (if (l0_2.length : Int) > 40 then (eyewitnesslaw22_RunSwaps.j0 k a1 true l0_0 l0_1 l0_2) else (eyewitnesslaw22_RunSwaps.j0 k a1 (decide ((l0_1.length : Int) < 2)) l0_0 l0_1 l0_2))) = some r := by rw [if_pos rfl] at H; exact H
   clear H
   have H := H1
   clear H1
   by_cases c7 : (l0_1.length : Int) > 40
   ·rw [if_pos c7] at H
    have c7b0 : decide (40 < (l0_1.length : Int)) = true := decide_eq_true c7
    have c7b1 : decide (40 < l0_1.length) = true := decide_eq_true (by omega)
    clear c7
    (first | rw [c7b0] | (simp only [i64_w, i32_w]; rw [c7b0]) | skip)
    have H' := Aside0.mk H
    clear H
    have hcz8_0 : w4.cell? ⟨gb301, 0, none⟩ = some (.slice A0_0 l0_0.length c0_0) := (blk_cell BK301.out 0).trans rfl
    have hcz8_1 : w4.cell? ⟨gb301, 1, none⟩ = some (.slice A0_1 l0_1.length c0_1) := (blk_cell BK301.out 1).trans rfl
    have hcz8_2 : w4.cell? ⟨gb301, 2, none⟩ = some (.slice A0_2 l0_2.length c0_2) := (blk_cell BK301.out 2).trans rfl
    have hfz8_0 := blk_frozen BK301.out 0
    have hfz8_1 := blk_frozen BK301.out 1
    have hfz8_2 := blk_frozen BK301.out 2
    go_wp2_with (first | ((with_reducible refine gate_callee (f := 6) rfl ?_); refine goesL_ (some 13) rfl rfl Try.func6 (by kernel_rfl) rfl #[.slice A0_0 l0_0.length c0_0, .int .i64 30] rfl (by (try simp only [List.map_toArray, List.map_cons, List.map_nil]); first | done | rfl | (simp only [List.length_drop, List.length_take]; rfl)) ?_; (with_reducible refine (eyewitnessref06_Small.calls k _ _ l0_0 30 true _ ?side1 ?side2 A5.out).mono ?_); (case side1 => exact tC HR0_0); (case side2 => exact HC0_0.out); rintro e w9 ⟨rfl, hb⟩; refine ⟨_, rfl, ?_⟩; have n0_ := Aside0.mk (blk_below (g := gb301) tB hb); have n1_ := Aside0.mk (below_step tH hb); clear BK301; clear HB; have BK301 := n0_; have HB := n1_; clear n0_ n1_; (try clear hb); (try clear hb2); (try clear hk); (try clear hi); have hcz10_0 : w9.cell? ⟨gb301, 0, none⟩ = some (.slice A0_0 l0_0.length c0_0) := (blk_cell BK301.out 0).trans rfl; have hcz10_1 : w9.cell? ⟨gb301, 1, none⟩ = some (.slice A0_1 l0_1.length c0_1) := (blk_cell BK301.out 1).trans rfl; have hcz10_2 : w9.cell? ⟨gb301, 2, none⟩ = some (.slice A0_2 l0_2.length c0_2) := (blk_cell BK301.out 2).trans rfl; have hfz10_0 := blk_frozen BK301.out 0; have hfz10_1 := blk_frozen BK301.out 1; have hfz10_2 := blk_frozen BK301.out 2))
    go_meet
    case rel => exact ⟨_, (true), (by first | rfl | (simp; done) | (simp [*]; done)), H', ⟨by first | omega | exact Nat.le_refl _⟩, ⟨by (with_reducible repeat (first | refine blk_drewN ?_ _ | refine blk_drew ?_ | refine blk_alloc ?_ _)); exact BK301.out⟩, ⟨tH⟩⟩
   ·rw [if_neg c7] at H
    have c7b0 : decide (40 < (l0_1.length : Int)) = false := decide_eq_false c7
    have c7b1 : decide (40 < l0_1.length) = false := decide_eq_false (by omega)
    clear c7
    (first | rw [c7b0] | (simp only [i64_w, i32_w]; rw [c7b0]) | skip)
    by_cases c11 : (l0_2.length : Int) > 40
    ·rw [if_pos c11] at H
     have c11b0 : decide (40 < (l0_2.length : Int)) = true := decide_eq_true c11
     have c11b1 : decide (40 < l0_2.length) = true := decide_eq_true (by omega)
     clear c11
     have H' := Aside0.mk H
     clear H
     have hcz12_0 : w4.cell? ⟨gb301, 0, none⟩ = some (.slice A0_0 l0_0.length c0_0) := (blk_cell BK301.out 0).trans rfl
     have hcz12_1 : w4.cell? ⟨gb301, 1, none⟩ = some (.slice A0_1 l0_1.length c0_1) := (blk_cell BK301.out 1).trans rfl
     have hcz12_2 : w4.cell? ⟨gb301, 2, none⟩ = some (.slice A0_2 l0_2.length c0_2) := (blk_cell BK301.out 2).trans rfl
     have hfz12_0 := blk_frozen BK301.out 0
     have hfz12_1 := blk_frozen BK301.out 1
     have hfz12_2 := blk_frozen BK301.out 2
     go_wp2_with (first | ((with_reducible refine gate_callee (f := 6) rfl ?_); refine goesL_ (some 13) rfl rfl Try.func6 (by kernel_rfl) rfl #[.slice A0_0 l0_0.length c0_0, .int .i64 30] rfl (by (try simp only [List.map_toArray, List.map_cons, List.map_nil]); first | done | rfl | (simp only [List.length_drop, List.length_take]; rfl)) ?_; (with_reducible refine (eyewitnessref06_Small.calls k _ _ l0_0 30 true _ ?side1 ?side2 A5.out).mono ?_); (case side1 => exact tC HR0_0); (case side2 => exact HC0_0.out); rintro e w13 ⟨rfl, hb⟩; refine ⟨_, rfl, ?_⟩; have n0_ := Aside0.mk (blk_below (g := gb301) tB hb); have n1_ := Aside0.mk (below_step tH hb); clear BK301; clear HB; have BK301 := n0_; have HB := n1_; clear n0_ n1_; (try clear hb); (try clear hb2); (try clear hk); (try clear hi); have hcz14_0 : w13.cell? ⟨gb301, 0, none⟩ = some (.slice A0_0 l0_0.length c0_0) := (blk_cell BK301.out 0).trans rfl; have hcz14_1 : w13.cell? ⟨gb301, 1, none⟩ = some (.slice A0_1 l0_1.length c0_1) := (blk_cell BK301.out 1).trans rfl; have hcz14_2 : w13.cell? ⟨gb301, 2, none⟩ = some (.slice A0_2 l0_2.length c0_2) := (blk_cell BK301.out 2).trans rfl; have hfz14_0 := blk_frozen BK301.out 0; have hfz14_1 := blk_frozen BK301.out 1; have hfz14_2 := blk_frozen BK301.out 2))
     go_meet
     case rel => exact ⟨_, (true), (by first | rfl | (simp; done) | (simp [*]; done)), H', ⟨by first | omega | exact Nat.le_refl _⟩, ⟨by (with_reducible repeat (first | refine blk_drewN ?_ _ | refine blk_drew ?_ | refine blk_alloc ?_ _)); exact BK301.out⟩, ⟨tH⟩⟩
    ·rw [if_neg c11] at H
     have c11b0 : decide (40 < (l0_2.length : Int)) = false := decide_eq_false c11
     have c11b1 : decide (40 < l0_2.length) = false := decide_eq_false (by omega)
     clear c11
     have H' := Aside0.mk H
     clear H
     have hcz15_0 : w4.cell? ⟨gb301, 0, none⟩ = some (.slice A0_0 l0_0.length c0_0) := (blk_cell BK301.out 0).trans rfl
     have hcz15_1 : w4.cell? ⟨gb301, 1, none⟩ = some (.slice A0_1 l0_1.length c0_1) := (blk_cell BK301.out 1).trans rfl
     have hcz15_2 : w4.cell? ⟨gb301, 2, none⟩ = some (.slice A0_2 l0_2.length c0_2) := (blk_cell BK301.out 2).trans rfl
     have hfz15_0 := blk_frozen BK301.out 0
     have hfz15_1 := blk_frozen BK301.out 1
     have hfz15_2 := blk_frozen BK301.out 2
     go_wp2_with (first | ((with_reducible refine gate_callee (f := 6) rfl ?_); refine goesL_ (some 13) rfl rfl Try.func6 (by kernel_rfl) rfl #[.slice A0_0 l0_0.length c0_0, .int .i64 30] rfl (by (try simp only [List.map_toArray, List.map_cons, List.map_nil]); first | done | rfl | (simp only [List.length_drop, List.length_take]; rfl)) ?_; (with_reducible refine (eyewitnessref06_Small.calls k _ _ l0_0 30 true _ ?side1 ?side2 A5.out).mono ?_); (case side1 => exact tC HR0_0); (case side2 => exact HC0_0.out); rintro e w16 ⟨rfl, hb⟩; refine ⟨_, rfl, ?_⟩; have n0_ := Aside0.mk (blk_below (g := gb301) tB hb); have n1_ := Aside0.mk (below_step tH hb); clear BK301; clear HB; have BK301 := n0_; have HB := n1_; clear n0_ n1_; (try clear hb); (try clear hb2); (try clear hk); (try clear hi); have hcz17_0 : w16.cell? ⟨gb301, 0, none⟩ = some (.slice A0_0 l0_0.length c0_0) := (blk_cell BK301.out 0).trans rfl; have hcz17_1 : w16.cell? ⟨gb301, 1, none⟩ = some (.slice A0_1 l0_1.length c0_1) := (blk_cell BK301.out 1).trans rfl; have hcz17_2 : w16.cell? ⟨gb301, 2, none⟩ = some (.slice A0_2 l0_2.length c0_2) := (blk_cell BK301.out 2).trans rfl; have hfz17_0 := blk_frozen BK301.out 0; have hfz17_1 := blk_frozen BK301.out 1; have hfz17_2 := blk_frozen BK301.out 2))
     go_meet
     case rel => exact ⟨_, (decide ((l0_1.length : Int) < 2)), (by first | rfl | (simp; done) | (simp [*]; done)), H', ⟨by first | omega | exact Nat.le_refl _⟩, ⟨by (with_reducible repeat (first | refine blk_drewN ?_ _ | refine blk_drew ?_ | refine blk_alloc ?_ _)); exact BK301.out⟩, ⟨tH⟩⟩
  ·replace c6 := Bool.eq_false_iff.mpr c6
   subst c6
   have H1 : (eyewitnesslaw22_RunSwaps.j0 k a1 true l0_0 l0_1 l0_2) = some r := by rw [if_neg (show ¬ (false = true) by decide)] at H; exact H
   clear H
   have H := H1
   clear H1
   have H' := Aside0.mk H
   clear H
   have hcz18_0 : w4.cell? ⟨gb301, 0, none⟩ = some (.slice A0_0 l0_0.length c0_0) := (blk_cell BK301.out 0).trans rfl
   have hcz18_1 : w4.cell? ⟨gb301, 1, none⟩ = some (.slice A0_1 l0_1.length c0_1) := (blk_cell BK301.out 1).trans rfl
   have hcz18_2 : w4.cell? ⟨gb301, 2, none⟩ = some (.slice A0_2 l0_2.length c0_2) := (blk_cell BK301.out 2).trans rfl
   have hfz18_0 := blk_frozen BK301.out 0
   have hfz18_1 := blk_frozen BK301.out 1
   have hfz18_2 := blk_frozen BK301.out 2
   go_wp2_with (first | ((with_reducible refine gate_callee (f := 6) rfl ?_); refine goesL_ (some 13) rfl rfl Try.func6 (by kernel_rfl) rfl #[.slice A0_0 l0_0.length c0_0, .int .i64 30] rfl (by (try simp only [List.map_toArray, List.map_cons, List.map_nil]); first | done | rfl | (simp only [List.length_drop, List.length_take]; rfl)) ?_; (with_reducible refine (eyewitnessref06_Small.calls k _ _ l0_0 30 false _ ?side1 ?side2 A5.out).mono ?_); (case side1 => exact tC HR0_0); (case side2 => exact HC0_0.out); rintro e w19 ⟨rfl, hb⟩; refine ⟨_, rfl, ?_⟩; have n0_ := Aside0.mk (blk_below (g := gb301) tB hb); have n1_ := Aside0.mk (below_step tH hb); clear BK301; clear HB; have BK301 := n0_; have HB := n1_; clear n0_ n1_; (try clear hb); (try clear hb2); (try clear hk); (try clear hi)))
   go_meet
   case rel => exact ⟨_, (true), (by first | rfl | (simp; done) | (simp [*]; done)), H', ⟨by first | omega | exact Nat.le_refl _⟩, ⟨by (with_reducible repeat (first | refine blk_drewN ?_ _ | refine blk_drew ?_ | refine blk_alloc ?_ _)); exact BK301.out⟩, ⟨tH⟩⟩
 case rest =>
  clear HC3
  try clear c1
  try clear p2
  try clear c5
  try clear c6
  try clear c7
  try clear c7b0
  try clear c7b1
  try clear c11
  try clear c11b0
  try clear c11b1
  try clear hcz10_0
  try clear hcz10_1
  try clear hcz10_2
  try clear hcz12_0
  try clear hcz12_1
  try clear hcz12_2
  try clear hcz14_0
  try clear hcz14_1
  try clear hcz14_2
  try clear hcz15_0
  try clear hcz15_1
  try clear hcz15_2
  try clear hcz17_0
  try clear hcz17_1
  try clear hcz17_2
  try clear hcz18_0
  try clear hcz18_1
  try clear hcz18_2
  try clear hcz8_0
  try clear hcz8_1
  try clear hcz8_2
  try clear hfz10_0
  try clear hfz10_1
  try clear hfz10_2
  try clear hfz12_0
  try clear hfz12_1
  try clear hfz12_2
  try clear hfz14_0
  try clear hfz14_1
  try clear hfz14_2
  try clear hfz15_0
  try clear hfz15_1
  try clear hfz15_2
  try clear hfz17_0
  try clear hfz17_1
  try clear hfz17_2
  try clear hfz18_0
  try clear hfz18_1
  try clear hfz18_2
  try clear hfz8_0
  try clear hfz8_1
  try clear hfz8_2
  obtain ⟨kq, x32_2, rfl, HA, HJ2, BK301, HB⟩ := hcut
  cases kq with
  | zero => exact absurd HA.out (by simp [eyewitnesslaw22_RunSwaps.j0])
  | succ kj2 =>
   have H := HA.out
   clear HA
   simp only [eyewitnesslaw22_RunSwaps.j0] at H
   by_cases c20 : x32_2 = true
   ·subst c20
    have H1 : ((eyewitnesslaw22_awake.f kj2).bind fun t303 => (some t303)) = some r := by rw [if_pos rfl] at H; exact H
    clear H
    have H := H1
    clear H1
    replace H := Option.bind_eq_some_iff.mp H
    obtain ⟨t303, A210, H⟩ := H
    replace H : (some t303) = some r := H
    have A21 := Aside0.mk A210
    clear A210
    obtain rfl := Option.some.inj H
    go_wp2_with (first | ((with_reducible refine gate_callee (f := 7) rfl ?_); refine goesL_ (some 33) rfl rfl Try.func7 (by kernel_rfl) rfl #[] rfl (by (try simp only [List.map_toArray, List.map_cons, List.map_nil]); first | done | rfl | (simp only [List.length_drop, List.length_take]; rfl)) ?_; (with_reducible refine (eyewitnesslaw22_awake.calls kj2  t303 _ A21.out).mono ?_); rintro e w22 ⟨rfl, hb⟩; refine ⟨_, rfl, ?_⟩; have n0_ := Aside0.mk (blk_below (g := gb301) tB hb); have n1_ := Aside0.mk (below_step tH hb); clear BK301; clear HB; have BK301 := n0_; have HB := n1_; clear n0_ n1_; (try clear hb); (try clear hb2); (try clear hk); (try clear hi)))
    go_ret
    exact ⟨by first | rfl | (simp [errW_none, errW_some] <;> rfl) | (simp [*, errW_none, errW_some] <;> rfl), tH⟩
   ·replace c20 := Bool.eq_false_iff.mpr c20
    subst c20
    have H1 : ((eyewitnessref11_Of.f kj2 l0_0).bind fun bt304 => (if (wrap64 ((l0_1.length : Int) - 1)) = 0 then (none) else (if 0 ≤ (Int.tmod (wrap64 (a1)) (wrap64 ((l0_1.length : Int) - 1))) then (if (Int.tmod (wrap64 (a1)) (wrap64 ((l0_1.length : Int) - 1))) < (l0_1.length : Int) then (if 0 ≤ (wrap64 ((Int.tmod (wrap64 (a1)) (wrap64 ((l0_1.length : Int) - 1))) + 1)) then (if (wrap64 ((Int.tmod (wrap64 (a1)) (wrap64 ((l0_1.length : Int) - 1))) + 1)) < (l0_1.length : Int) then (if bt304.2.2.2 = true then (if (rd l0_1 (Int.tmod (wrap64 (a1)) (wrap64 ((l0_1.length : Int) - 1)))) < 0 then (eyewitnesslaw22_RunSwaps.j1 kj2 (Int.tmod (wrap64 (a1)) (wrap64 ((l0_1.length : Int) - 1))) (rd l0_1 (Int.tmod (wrap64 (a1)) (wrap64 ((l0_1.length : Int) - 1)))) (rd l0_1 (wrap64 ((Int.tmod (wrap64 (a1)) (wrap64 ((l0_1.length : Int) - 1))) + 1))) true l0_0 l0_1 l0_2 bt304.1 bt304.2.1 bt304.2.2.1) else (if (rd l0_1 (wrap64 ((Int.tmod (wrap64 (a1)) (wrap64 ((l0_1.length : Int) - 1))) + 1))) < 0 then (eyewitnesslaw22_RunSwaps.j1 kj2 (Int.tmod (wrap64 (a1)) (wrap64 ((l0_1.length : Int) - 1))) (rd l0_1 (Int.tmod (wrap64 (a1)) (wrap64 ((l0_1.length : Int) - 1)))) (rd l0_1 (wrap64 ((Int.tmod (wrap64 (a1)) (wrap64 ((l0_1.length : Int) - 1))) + 1))) true l0_0 l0_1 l0_2 bt304.1 bt304.2.1 bt304.2.2.1) else (if (rd l0_1 (Int.tmod (wrap64 (a1)) (wrap64 ((l0_1.length : Int) - 1)))) ≥ (bt304.2.1.length : Int) then (eyewitnesslaw22_RunSwaps.j1 kj2 (Int.tmod (wrap64 (a1)) (wrap64 ((l0_1.length : Int) - 1))) (rd l0_1 (Int.tmod (wrap64 (a1)) (wrap64 ((l0_1.length : Int) - 1)))) (rd l0_1 (wrap64 ((Int.tmod (wrap64 (a1)) (wrap64 ((l0_1.length : Int) - 1))) + 1))) true l0_0 l0_1 l0_2 bt304.1 bt304.2.1 bt304.2.2.1) else (if (rd l0_1 (wrap64 ((Int.tmod (wrap64 (a1)) (wrap64 ((l0_1.length : Int) - 1))) + 1))) ≥ (bt304.2.1.length : Int) then (eyewitnesslaw22_RunSwaps.j1 kj2 (Int.tmod (wrap64 (a1)) (wrap64 ((l0_1.length : Int) - 1))) (rd l0_1 (Int.tmod (wrap64 (a1)) (wrap64 ((l0_1.length : Int) - 1)))) (rd l0_1 (wrap64 ((Int.tmod (wrap64 (a1)) (wrap64 ((l0_1.length : Int) - 1))) + 1))) true l0_0 l0_1 l0_2 bt304.1 bt304.2.1 bt304.2.2.1) else (if 0 ≤ (rd l0_1 (Int.tmod (wrap64 (a1)) (wrap64 ((l0_1.length : Int) - 1)))) then (if (rd l0_1 (Int.tmod (wrap64 (a1)) (wrap64 ((l0_1.length : Int) - 1)))) < (bt304.2.1.length : Int) then (if 0 ≤ (rd l0_1 (wrap64 ((Int.tmod (wrap64 (a1)) (wrap64 ((l0_1.length : Int) - 1))) + 1))) then (if (rd l0_1 (wrap64 ((Int.tmod (wrap64 (a1)) (wrap64 ((l0_1.length : Int) - 1))) + 1))) < (bt304.2.1.length : Int) then (eyewitnesslaw22_RunSwaps.j1 kj2 (Int.tmod (wrap64 (a1)) (wrap64 ((l0_1.length : Int) - 1))) (rd l0_1 (Int.tmod (wrap64 (a1)) (wrap64 ((l0_1.length : Int) - 1)))) (rd l0_1 (wrap64 ((Int.tmod (wrap64 (a1)) (wrap64 ((l0_1.length : Int) - 1))) + 1))) (((rd_T40 bt304.2.1 (rd l0_1 (Int.tmod (wrap64 (a1)) (wrap64 ((l0_1.length : Int) - 1))))).f3) == ((rd_T40 bt304.2.1 (rd l0_1 (wrap64 ((Int.tmod (wrap64 (a1)) (wrap64 ((l0_1.length : Int) - 1))) + 1)))).f3)) l0_0 l0_1 l0_2 bt304.1 bt304.2.1 bt304.2.2.1) else (none)) else (none)) else (none)) else (none)))))) else (eyewitnesslaw22_RunSwaps.j1 kj2 (Int.tmod (wrap64 (a1)) (wrap64 ((l0_1.length : Int) - 1))) (rd l0_1 (Int.tmod (wrap64 (a1)) (wrap64 ((l0_1.length : Int) - 1)))) (rd l0_1 (wrap64 ((Int.tmod (wrap64 (a1)) (wrap64 ((l0_1.length : Int) - 1))) + 1))) true l0_0 l0_1 l0_2 bt304.1 bt304.2.1 bt304.2.2.1)) else (none)) else (none)) else (none)) else (none)))) = some r := by rw [if_neg (show ¬ (false = true) by decide)] at H; exact H
    clear H
    have H := H1
    clear H1
    replace H := Option.bind_eq_some_iff.mp H
    obtain ⟨⟨t304, t307, t310, t313⟩, A230, H⟩ := H
    replace H : (if (wrap64 ((l0_1.length : Int) - 1)) = 0 then (none) else (if 0 ≤ (Int.tmod (wrap64 (a1)) (wrap64 ((l0_1.length : Int) - 1))) then (if (Int.tmod (wrap64 (a1)) (wrap64 ((l0_1.length : Int) - 1))) < (l0_1.length : Int) then (if 0 ≤ (wrap64 ((Int.tmod (wrap64 (a1)) (wrap64 ((l0_1.length : Int) - 1))) + 1)) then (if (wrap64 ((Int.tmod (wrap64 (a1)) (wrap64 ((l0_1.length : Int) - 1))) + 1)) < (l0_1.length : Int) then (if t313 = true then (if (rd l0_1 (Int.tmod (wrap64 (a1)) (wrap64 ((l0_1.length : Int) - 1)))) < 0 then (eyewitnesslaw22_RunSwaps.j1 kj2 (Int.tmod (wrap64 (a1)) (wrap64 ((l0_1.length : Int) - 1))) (rd l0_1 (Int.tmod (wrap64 (a1)) (wrap64 ((l0_1.length : Int) - 1)))) (rd l0_1 (wrap64 ((Int.tmod (wrap64 (a1)) (wrap64 ((l0_1.length : Int) - 1))) + 1))) true l0_0 l0_1 l0_2 t304 t307 t310) else (if (rd l0_1 (wrap64 ((Int.tmod (wrap64 (a1)) (wrap64 ((l0_1.length : Int) - 1))) + 1))) < 0 then (eyewitnesslaw22_RunSwaps.j1 kj2 (Int.tmod (wrap64 (a1)) (wrap64 ((l0_1.length : Int) - 1))) (rd l0_1 (Int.tmod (wrap64 (a1)) (wrap64 ((l0_1.length : Int) - 1)))) (rd l0_1 (wrap64 ((Int.tmod (wrap64 (a1)) (wrap64 ((l0_1.length : Int) - 1))) + 1))) true l0_0 l0_1 l0_2 t304 t307 t310) else (if (rd l0_1 (Int.tmod (wrap64 (a1)) (wrap64 ((l0_1.length : Int) - 1)))) ≥ (t307.length : Int) then (eyewitnesslaw22_RunSwaps.j1 kj2 (Int.tmod (wrap64 (a1)) (wrap64 ((l0_1.length : Int) - 1))) (rd l0_1 (Int.tmod (wrap64 (a1)) (wrap64 ((l0_1.length : Int) - 1)))) (rd l0_1 (wrap64 ((Int.tmod (wrap64 (a1)) (wrap64 ((l0_1.length : Int) - 1))) + 1))) true l0_0 l0_1 l0_2 t304 t307 t310) else (if (rd l0_1 (wrap64 ((Int.tmod (wrap64 (a1)) (wrap64 ((l0_1.length : Int) - 1))) + 1))) ≥ (t307.length : Int) then (eyewitnesslaw22_RunSwaps.j1 kj2 (Int.tmod (wrap64 (a1)) (wrap64 ((l0_1.length : Int) - 1))) (rd l0_1 (Int.tmod (wrap64 (a1)) (wrap64 ((l0_1.length : Int) - 1)))) (rd l0_1 (wrap64 ((Int.tmod (wrap64 (a1)) (wrap64 ((l0_1.length : Int) - 1))) + 1))) true l0_0 l0_1 l0_2 t304 t307 t310) else (if 0 ≤ (rd l0_1 (Int.tmod (wrap64 (a1)) (wrap64 ((l0_1.length : Int) - 1)))) then (if (rd l0_1 (Int.tmod (wrap64 (a1)) (wrap64 ((l0_1.length : Int) - 1)))) < (t307.length : Int) then (if 0 ≤ (rd l0_1 (wrap64 ((Int.tmod (wrap64 (a1)) (wrap64 ((l0_1.length : Int) - 1))) + 1))) then (if (rd l0_1 (wrap64 ((Int.tmod (wrap64 (a1)) (wrap64 ((l0_1.length : Int) - 1))) + 1))) < (t307.length : Int) then (eyewitnesslaw22_RunSwaps.j1 kj2 (Int.tmod (wrap64 (a1)) (wrap64 ((l0_1.length : Int) - 1))) (rd l0_1 (Int.tmod (wrap64 (a1)) (wrap64 ((l0_1.length : Int) - 1)))) (rd l0_1 (wrap64 ((Int.tmod (wrap64 (a1)) (wrap64 ((l0_1.length : Int) - 1))) + 1))) (((rd_T40 t307 (rd l0_1 (Int.tmod (wrap64 (a1)) (wrap64 ((l0_1.length : Int) - 1))))).f3) == ((rd_T40 t307 (rd l0_1 (wrap64 ((Int.tmod (wrap64 (a1)) (wrap64 ((l0_1.length : Int) - 1))) + 1)))).f3)) l0_0 l0_1 l0_2 t304 t307 t310) else (none)) else (none)) else (none)) else (none)))))) else (eyewitnesslaw22_RunSwaps.j1 kj2 (Int.tmod (wrap64 (a1)) (wrap64 ((l0_1.length : Int) - 1))) (rd l0_1 (Int.tmod (wrap64 (a1)) (wrap64 ((l0_1.length : Int) - 1)))) (rd l0_1 (wrap64 ((Int.tmod (wrap64 (a1)) (wrap64 ((l0_1.length : Int) - 1))) + 1))) true l0_0 l0_1 l0_2 t304 t307 t310)) else (none)) else (none)) else (none)) else (none))) = some r := H
    have A23 := Aside0.mk A230
    clear A230
    by_cases c24 : (wrap64 ((l0_1.length : Int) - 1)) = 0
    ·rw [if_pos c24] at H
     exact absurd H (by simp)
    ·rw [if_neg c24] at H
     have c24b0 : ((wrap64 ((l0_1.length : Int) - 1)) == 0) = false := beq_eq_false_iff_ne.mpr c24
     have c24b1 : ((wrap64 ((l0_1.length : Int) - 1)) != 0) = true := bne_iff_ne.mpr c24
     obtain ⟨ji25, hji25⟩ : ∃ j_ : Int, (Int.tmod (wrap64 (a1)) (wrap64 ((l0_1.length : Int) - 1))) = j_ := ⟨_, rfl⟩
     replace H : (if 0 ≤ (ji25) then (if (ji25) < (l0_1.length : Int) then (if 0 ≤ (wrap64 ((ji25) + 1)) then (if (wrap64 ((ji25) + 1)) < (l0_1.length : Int) then (if t313 = true then (if (rd l0_1 (ji25)) < 0 then (eyewitnesslaw22_RunSwaps.j1 kj2 ji25 (rd l0_1 (ji25)) (rd l0_1 (wrap64 ((ji25) + 1))) true l0_0 l0_1 l0_2 t304 t307 t310) else (if (rd l0_1 (wrap64 ((ji25) + 1))) < 0 then (eyewitnesslaw22_RunSwaps.j1 kj2 ji25 (rd l0_1 (ji25)) (rd l0_1 (wrap64 ((ji25) + 1))) true l0_0 l0_1 l0_2 t304 t307 t310) else (if (rd l0_1 (ji25)) ≥ (t307.length : Int) then (eyewitnesslaw22_RunSwaps.j1 kj2 ji25 (rd l0_1 (ji25)) (rd l0_1 (wrap64 ((ji25) + 1))) true l0_0 l0_1 l0_2 t304 t307 t310) else (if (rd l0_1 (wrap64 ((ji25) + 1))) ≥ (t307.length : Int) then (eyewitnesslaw22_RunSwaps.j1 kj2 ji25 (rd l0_1 (ji25)) (rd l0_1 (wrap64 ((ji25) + 1))) true l0_0 l0_1 l0_2 t304 t307 t310) else (if 0 ≤ (rd l0_1 (ji25)) then (if (rd l0_1 (ji25)) < (t307.length : Int) then (if 0 ≤ (rd l0_1 (wrap64 ((ji25) + 1))) then (if (rd l0_1 (wrap64 ((ji25) + 1))) < (t307.length : Int) then (eyewitnesslaw22_RunSwaps.j1 kj2 ji25 (rd l0_1 (ji25)) (rd l0_1 (wrap64 ((ji25) + 1))) (((rd_T40 t307 (rd l0_1 (ji25))).f3) == ((rd_T40 t307 (rd l0_1 (wrap64 ((ji25) + 1)))).f3)) l0_0 l0_1 l0_2 t304 t307 t310) else (none)) else (none)) else (none)) else (none)))))) else (eyewitnesslaw22_RunSwaps.j1 kj2 ji25 (rd l0_1 (ji25)) (rd l0_1 (wrap64 ((ji25) + 1))) true l0_0 l0_1 l0_2 t304 t307 t310)) else (none)) else (none)) else (none)) else (none)) = some r := by first | (rw [hji25] at H; exact H) | (simp only [hji25] at H ⊢; exact H)
     (try rw [hji25] at A23)
     by_cases c26 : 0 ≤ (ji25)
     ·rw [if_pos c26] at H
      have c26b0 : decide (0 ≤ (ji25)) = true := decide_eq_true c26
      clear c26
      by_cases c27 : (ji25) < (l0_1.length : Int)
      ·rw [if_pos c27] at H
       have c27b0 : decide ((ji25) < (l0_1.length : Int)) = true := decide_eq_true c27
       clear c27
       obtain ⟨ji28, hji28⟩ : ∃ j_ : Int, (wrap64 ((ji25) + 1)) = j_ := ⟨_, rfl⟩
       replace H : (if 0 ≤ (ji28) then (if (ji28) < (l0_1.length : Int) then (if t313 = true then (if (rd l0_1 (ji25)) < 0 then (eyewitnesslaw22_RunSwaps.j1 kj2 ji25 (rd l0_1 (ji25)) (rd l0_1 (ji28)) true l0_0 l0_1 l0_2 t304 t307 t310) else (if (rd l0_1 (ji28)) < 0 then (eyewitnesslaw22_RunSwaps.j1 kj2 ji25 (rd l0_1 (ji25)) (rd l0_1 (ji28)) true l0_0 l0_1 l0_2 t304 t307 t310) else (if (rd l0_1 (ji25)) ≥ (t307.length : Int) then (eyewitnesslaw22_RunSwaps.j1 kj2 ji25 (rd l0_1 (ji25)) (rd l0_1 (ji28)) true l0_0 l0_1 l0_2 t304 t307 t310) else (if (rd l0_1 (ji28)) ≥ (t307.length : Int) then (eyewitnesslaw22_RunSwaps.j1 kj2 ji25 (rd l0_1 (ji25)) (rd l0_1 (ji28)) true l0_0 l0_1 l0_2 t304 t307 t310) else (if 0 ≤ (rd l0_1 (ji25)) then (if (rd l0_1 (ji25)) < (t307.length : Int) then (if 0 ≤ (rd l0_1 (ji28)) then (if (rd l0_1 (ji28)) < (t307.length : Int) then (eyewitnesslaw22_RunSwaps.j1 kj2 ji25 (rd l0_1 (ji25)) (rd l0_1 (ji28)) (((rd_T40 t307 (rd l0_1 (ji25))).f3) == ((rd_T40 t307 (rd l0_1 (ji28))).f3)) l0_0 l0_1 l0_2 t304 t307 t310) else (none)) else (none)) else (none)) else (none)))))) else (eyewitnesslaw22_RunSwaps.j1 kj2 ji25 (rd l0_1 (ji25)) (rd l0_1 (ji28)) true l0_0 l0_1 l0_2 t304 t307 t310)) else (none)) else (none)) = some r := by first | (rw [hji28] at H; exact H) | (simp only [hji28] at H ⊢; exact H)
       (try rw [hji28] at A23)
       have hji28w : (IntKind.i64.wrap ((ji25) + 1)) = ji28 := (i64_w _).trans hji28
       by_cases c29 : 0 ≤ (ji28)
       ·rw [if_pos c29] at H
        have c29b0 : decide (0 ≤ (ji28)) = true := decide_eq_true c29
        clear c29
        by_cases c30 : (ji28) < (l0_1.length : Int)
        ·rw [if_pos c30] at H
         have c30b0 : decide ((ji28) < (l0_1.length : Int)) = true := decide_eq_true c30
         clear c30
         have HC31 := Aside0.mk H
         clear H
         have hcz32_0 : wc.cell? ⟨gb301, 0, none⟩ = some (.slice A0_0 l0_0.length c0_0) := (blk_cell BK301.out 0).trans rfl
         have hcz32_1 : wc.cell? ⟨gb301, 1, none⟩ = some (.slice A0_1 l0_1.length c0_1) := (blk_cell BK301.out 1).trans rfl
         have hcz32_2 : wc.cell? ⟨gb301, 2, none⟩ = some (.slice A0_2 l0_2.length c0_2) := (blk_cell BK301.out 2).trans rfl
         have hfz32_0 := blk_frozen BK301.out 0
         have hfz32_1 := blk_frozen BK301.out 1
         have hfz32_2 := blk_frozen BK301.out 2
         try go_wp2_with (first | ((with_reducible refine gate_callee (f := 8) rfl ?_); refine goesL_ (some 37) rfl rfl Try.func8 (by kernel_rfl) rfl #[.slice A0_0 l0_0.length c0_0] rfl (by (try simp only [List.map_toArray, List.map_cons, List.map_nil]); first | done | rfl | (simp only [List.length_drop, List.length_take]; rfl)) ?_; (with_reducible refine (eyewitnessref11_Of.calls kj2 _ _ l0_0 t304 t307 t310 t313 _ ?side1 ?side2 A23.out).mono ?_); (case side1 => exact tC HR0_0); (case side2 => exact HC0_0.out); rintro e w33 ⟨v305, v308, v311, rfl, ho0, ho1, ho2, hb⟩; refine ⟨_, rfl, ?_⟩; have n0_ := Aside0.mk (Kd.R_lower ho0 (below_size tH)); have n1_ := Aside0.mk (Kd.R_lower ho1 (below_size tH)); have n2_ := Aside0.mk (Kd.R_lower ho2 (below_size tH)); have n3_ := Aside0.mk (blk_below (g := gb301) tB hb); have n4_ := Aside0.mk (below_step tH hb); clear BK301; clear HB; have HO306 := n0_; have HO309 := n1_; have HO312 := n2_; have BK301 := n3_; have HB := n4_; clear n0_ n1_ n2_ n3_ n4_; (try clear hb); (try clear hb2); (try clear hk); (try clear hi); (try clear ho0); (try clear ho1); (try clear ho2)) | ((with_reducible refine gate_dst (N := 5) rfl ?_); (try (refine gate_guard (by rfl) ?_; dsimp only)); refine box_event ?hg (N := 5) ?hd (cs := #[.slice none 0 0, .slice none 0 0, .slice none 0 0]) (t := 31) ?hr ?_; (case hd => rfl); (case hg => rfl); (case hr => first | (go_simp; done) | (go_simp; rfl)); intro gb314 hg w34 hbox hb; have n0_ := Aside0.mk (Kd.R_below (tRr HO306) hb); have n1_ := Aside0.mk (Kd.R_below (tRr HO309) hb); have n2_ := Aside0.mk (Kd.R_below (tRr HO312) hb); have n3_ := Aside0.mk (blk_below (g := gb301) tB hb); have n4_ := Aside0.mk (below_step tH hb); have n5_ := Aside0.mk (hbox); have n6_ := Aside0.mk ((by rw [hg]; exact (below_size tH) : w.heap.size ≤ gb314)); have n7_ := Aside0.mk ((by rw [hg]; exact (below_size tH) : w.heap.size ≤ gb314)); have n8_ := Aside0.mk ((by rw [hg]; exact Nat.ne_of_lt (blk_lt (g := gb301) tB) : gb301 ≠ gb314)); have n9_ := Aside0.mk ((by rw [hg]; exact Nat.ne_of_gt (blk_lt (g := gb301) tB) : gb314 ≠ gb301)); clear HO306; clear HO309; clear HO312; clear BK301; clear HB; have HO306 := n0_; have HO309 := n1_; have HO312 := n2_; have BK301 := n3_; have HB := n4_; have BK314 := n5_; have GW314 := n6_; have GE314 := n7_; have NB301_314 := n8_; have NB314_301 := n9_; clear n0_ n1_ n2_ n3_ n4_ n5_ n6_ n7_ n8_ n9_; clear hb hbox hg; obtain ⟨Ao35, co35, eo35⟩ := Kd.R_slice HO306.out; subst eo35; have hnb36 := NB314_301.out; have hnc36 := NB301_314.out; have hcz37_0 : w34.cell? ⟨gb314, 0, none⟩ = some (.slice none 0 0) := (blk_cell BK314.out 0).trans rfl; have hcz37_1 : w34.cell? ⟨gb314, 1, none⟩ = some (.slice none 0 0) := (blk_cell BK314.out 1).trans rfl; have hcz37_2 : w34.cell? ⟨gb314, 2, none⟩ = some (.slice none 0 0) := (blk_cell BK314.out 2).trans rfl; have hfz37_0 := blk_frozen BK314.out 0; have hfz37_1 := blk_frozen BK314.out 1; have hfz37_2 := blk_frozen BK314.out 2; obtain ⟨Ao38, co38, eo38⟩ := Kd.R_slice HO309.out; subst eo38; obtain ⟨Ao39, co39, eo39⟩ := Kd.R_slice HO312.out; subst eo39; have hcz40_0 : w34.cell? ⟨gb301, 0, none⟩ = some (.slice A0_0 l0_0.length c0_0) := (blk_cell BK301.out 0).trans rfl; have hcz40_1 : w34.cell? ⟨gb301, 1, none⟩ = some (.slice A0_1 l0_1.length c0_1) := (blk_cell BK301.out 1).trans rfl; have hcz40_2 : w34.cell? ⟨gb301, 2, none⟩ = some (.slice A0_2 l0_2.length c0_2) := (blk_cell BK301.out 2).trans rfl; have hfz40_0 := blk_frozen BK301.out 0; have hfz40_1 := blk_frozen BK301.out 1; have hfz40_2 := blk_frozen BK301.out 2))
         have n0_ : Aside0 (Kd.R Kd.string 9 (((w34.setCell ⟨gb314, 0, none⟩ (.slice Ao35 t304.length co35)).setCell ⟨gb314, 1, none⟩ (.slice Ao38 t307.length co38)).setCell ⟨gb314, 2, none⟩ (.slice Ao39 t310.length co39)) w.heap.size (fun _ => True) (.slice Ao35 t304.length co35) t304) := ⟨by (with_reducible repeat (first | apply Kd.R_alloc | apply Kd.R_drewN | apply Kd.R_drew)); exact Kd.R_mono (Kd.R_far (p := ⟨gb314, 2, none⟩) (Kd.R_far (p := ⟨gb314, 1, none⟩) (Kd.R_far (p := ⟨gb314, 0, none⟩) (Kd.R_types HO306.out BK314.out (by decide)) (fun _ hk => hk.2) (.slice Ao35 t304.length co35)) (fun _ hk => hk.2) (.slice Ao38 t307.length co38)) (fun _ hk => hk.2) (.slice Ao39 t310.length co39)) (fun _ hk => trivial)⟩
         have n1_ : Aside0 (Kd.R k40 40 (((w34.setCell ⟨gb314, 0, none⟩ (.slice Ao35 t304.length co35)).setCell ⟨gb314, 1, none⟩ (.slice Ao38 t307.length co38)).setCell ⟨gb314, 2, none⟩ (.slice Ao39 t310.length co39)) w.heap.size (fun _ => True) (.slice Ao38 t307.length co38) t307) := ⟨by (with_reducible repeat (first | apply Kd.R_alloc | apply Kd.R_drewN | apply Kd.R_drew)); exact Kd.R_mono (Kd.R_far (p := ⟨gb314, 2, none⟩) (Kd.R_far (p := ⟨gb314, 1, none⟩) (Kd.R_far (p := ⟨gb314, 0, none⟩) (Kd.R_types HO309.out BK314.out (by decide)) (fun _ hk => hk.2) (.slice Ao35 t304.length co35)) (fun _ hk => hk.2) (.slice Ao38 t307.length co38)) (fun _ hk => hk.2) (.slice Ao39 t310.length co39)) (fun _ hk => trivial)⟩
         have n2_ : Aside0 (Kd.R (Kd.int .i64) 3 (((w34.setCell ⟨gb314, 0, none⟩ (.slice Ao35 t304.length co35)).setCell ⟨gb314, 1, none⟩ (.slice Ao38 t307.length co38)).setCell ⟨gb314, 2, none⟩ (.slice Ao39 t310.length co39)) w.heap.size (fun _ => True) (.slice Ao39 t310.length co39) t310) := ⟨by (with_reducible repeat (first | apply Kd.R_alloc | apply Kd.R_drewN | apply Kd.R_drew)); exact Kd.R_mono (Kd.R_far (p := ⟨gb314, 2, none⟩) (Kd.R_far (p := ⟨gb314, 1, none⟩) (Kd.R_far (p := ⟨gb314, 0, none⟩) (Kd.R_types HO312.out BK314.out (by decide)) (fun _ hk => hk.2) (.slice Ao35 t304.length co35)) (fun _ hk => hk.2) (.slice Ao38 t307.length co38)) (fun _ hk => hk.2) (.slice Ao39 t310.length co39)) (fun _ hk => trivial)⟩
         have n3_ : Aside0 ((((w34.setCell ⟨gb314, 0, none⟩ (.slice Ao35 t304.length co35)).setCell ⟨gb314, 1, none⟩ (.slice Ao38 t307.length co38)).setCell ⟨gb314, 2, none⟩ (.slice Ao39 t310.length co39)).heap[gb301]? = some (.cells #[.slice A0_0 l0_0.length c0_0, .slice A0_1 l0_1.length c0_1, .slice A0_2 l0_2.length c0_2] 25 (0, 0))) := ⟨by (with_reducible repeat (first | refine blk_drewN ?_ _ | refine blk_drew ?_ | refine blk_alloc ?_ _)); refine blk_far ?_ NB301_314.out _; (with_reducible repeat (first | refine blk_drewN ?_ _ | refine blk_drew ?_ | refine blk_alloc ?_ _)); refine blk_far ?_ NB301_314.out _; (with_reducible repeat (first | refine blk_drewN ?_ _ | refine blk_drew ?_ | refine blk_alloc ?_ _)); refine blk_far ?_ NB301_314.out _; (with_reducible repeat (first | refine blk_drewN ?_ _ | refine blk_drew ?_ | refine blk_alloc ?_ _)); exact BK301.out⟩
         have n4_ : Aside0 ((((w34.setCell ⟨gb314, 0, none⟩ (.slice Ao35 t304.length co35)).setCell ⟨gb314, 1, none⟩ (.slice Ao38 t307.length co38)).setCell ⟨gb314, 2, none⟩ (.slice Ao39 t310.length co39)).heap[gb314]? = some (.cells #[.slice Ao35 t304.length co35, .slice Ao38 t307.length co38, .slice Ao39 t310.length co39] 31 (0, 0))) := ⟨by (with_reducible repeat (first | refine blk_drewN ?_ _ | refine blk_drew ?_ | refine blk_alloc ?_ _)); refine blk_put (cs := #[.slice Ao35 t304.length co35, .slice Ao38 t307.length co38, .slice none 0 0]) ?_ 2 _ rfl; (with_reducible repeat (first | refine blk_drewN ?_ _ | refine blk_drew ?_ | refine blk_alloc ?_ _)); refine blk_put (cs := #[.slice Ao35 t304.length co35, .slice none 0 0, .slice none 0 0]) ?_ 1 _ rfl; (with_reducible repeat (first | refine blk_drewN ?_ _ | refine blk_drew ?_ | refine blk_alloc ?_ _)); refine blk_put (cs := #[.slice none 0 0, .slice none 0 0, .slice none 0 0]) ?_ 0 _ rfl; (with_reducible repeat (first | refine blk_drewN ?_ _ | refine blk_drew ?_ | refine blk_alloc ?_ _)); exact BK314.out⟩
         have n5_ : Aside0 (Below w.heap.size w (((w34.setCell ⟨gb314, 0, none⟩ (.slice Ao35 t304.length co35)).setCell ⟨gb314, 1, none⟩ (.slice Ao38 t307.length co38)).setCell ⟨gb314, 2, none⟩ (.slice Ao39 t310.length co39))) := ⟨tH⟩
         (try clear HO306)
         (try clear HO309)
         (try clear HO312)
         (try clear BK301)
         (try clear BK314)
         (try clear HB)
         generalize (((w34.setCell ⟨gb314, 0, none⟩ (.slice Ao35 t304.length co35)).setCell ⟨gb314, 1, none⟩ (.slice Ao38 t307.length co38)).setCell ⟨gb314, 2, none⟩ (.slice Ao39 t310.length co39)) = w41 at n0_ n1_ n2_ n3_ n4_ n5_ ⊢
         have HO306 := n0_
         have HO309 := n1_
         have HO312 := n2_
         have BK301 := n3_
         have BK314 := n4_
         have HB := n5_
         clear n0_ n1_ n2_ n3_ n4_ n5_
         have n0_ := Aside0.mk (Kd.R_drew HO306.out)
         have n1_ := Aside0.mk (Kd.R_drew HO309.out)
         have n2_ := Aside0.mk (Kd.R_drew HO312.out)
         have n3_ := Aside0.mk (blk_drew BK301.out)
         have n4_ := Aside0.mk (blk_drew BK314.out)
         have n5_ := Aside0.mk (below_drew1 HB.out)
         clear HO306
         clear HO309
         clear HO312
         clear BK301
         clear BK314
         clear HB
         have HO306 := n0_
         have HO309 := n1_
         have HO312 := n2_
         have BK301 := n3_
         have BK314 := n4_
         have HB := n5_
         clear n0_ n1_ n2_ n3_ n4_ n5_
         have p315 : 0 ≤ ((ji25) : Int) := of_decide_eq_true aS
         have q315 : (ji25) < (l0_1.length : Int) := of_decide_eq_true aS
         obtain ⟨ad315, e315, hx315_0⟩ := Kd.at_int HR0_1.out (ji25) p315 q315
         have hw315_0 := hx315_0
         cases e315
         replace hx315_0 := pw_cell_below HB.out hx315_0
         replace p315 := eq_true p315
         replace q315 := eq_true q315
         have p316 : 0 ≤ ((ji28) : Int) := of_decide_eq_true aS
         have q316 : (ji28) < (l0_1.length : Int) := of_decide_eq_true aS
         obtain ⟨ad316, e316, hx316_0⟩ := Kd.at_int HR0_1.out (ji28) p316 q316
         have hw316_0 := hx316_0
         obtain rfl : ad315 = ad316 := (by injection e316)
         replace hx316_0 := pw_cell_below HB.out hx316_0
         replace p316 := eq_true p316
         replace q316 := eq_true q316
         refine start_ (n := 13) (S := fun w' => w'.cell? ⟨gb301, 0, none⟩ = some (.slice A0_0 l0_0.length c0_0) ∧ w'.cell? ⟨gb301, 1, none⟩ = some (.slice (some ad315) l0_1.length c0_1) ∧ w'.cell? ⟨gb301, 2, none⟩ = some (.slice A0_2 l0_2.length c0_2) ∧ w'.cell? (ad315.add ((ji25)).toNat) = some (.int .i64 (rd l0_1 (ji25))) ∧ w'.cell? (ad315.add ((ji28)).toNat) = some (.int .i64 (rd l0_1 (ji28)))) (ds := []) (bl 13 0) (by kernel_rfl) rfl rfl ⟨(blk_cell BK301.out 0).trans rfl, (blk_cell BK301.out 1).trans rfl, (blk_cell BK301.out 2).trans rfl, (pw_cell_below HB.out hw315_0), (pw_cell_below HB.out hw316_0)⟩ (fun hHeld => ?_); refine with_tabW eyewitnesslaw22_RunSwaps.tab5 eyewitnesslaw22_RunSwaps.bits5 (fun HT_ HW_ => ?_)
         generalize w41.drew = w42 at HO306 HO309 HO312 BK301 BK314 HB hx315_0 hx316_0 hHeld ⊢
         refine pX 0 47 (bl 13 1) HT_ rfl rfl kA (fun _ _ _ h => h) yA hA ?_
         refine pX 2 49 (bl 13 5) HT_ rfl rfl kA (fun _ _ _ h => h) yA hA ?_
         refine pX 5 52 (bl 13 37) HT_ rfl rfl kA (fun _ _ _ h => h) yA hA ?_
         refine pX 7 54 (bl 13 165) HT_ rfl rfl kA (fun _ _ _ h => h) yA hA ?_
         refine pX 8 55 (bl 13 421) HT_ rfl rfl kA (fun _ _ _ h => h) yA hA ?_
         refine pT 1 48 (bl 13 423) HT_ HW_ rfl rfl kA (fun _ _ _ h => h) yS hHeld hA ?_
         refine pX 3 50 (bl 13 431) HT_ rfl rfl kA (fun _ _ _ h => h) yA hA ?_
         refine pT 4 51 (bl 13 447) HT_ HW_ rfl rfl kA (fun _ _ _ h => h) yS hHeld hA ?_
         refine pX 11 8 (bl 13 2495) HT_ rfl rfl kA (fun _ _ _ h => h) yA hA ?_
         refine pT 6 53 (bl 13 2559) HT_ HW_ rfl rfl kA (fun _ _ _ h => h) yS hHeld hA ?_
         refine pX 9 56 (bl 13 3071) HT_ rfl rfl kA (fun _ _ _ h => h) yA hA ?_
         refine pT 10 57 (bl 13 4095) HT_ HW_ rfl rfl kA (fun _ _ _ h => h) yS hHeld hA ?_
         refine pX 12 9 (bl 13 8191) HT_ rfl rfl kA (fun _ _ _ h => h) yA hA ?_
         refine done_ (done_of HT_.out (by kernel_rfl)) ?_
         go_upto_region 6 with (fail)
         go_cut [96] (fun v96 wc => ∃ (kq : Nat) (x96_30 : Bool), v96 = .bool x96_30 ∧ Aside0 (eyewitnesslaw22_RunSwaps.j1 kq ji25 (rd l0_1 (ji25)) (rd l0_1 (ji28)) x96_30 l0_0 l0_1 l0_2 t304 t307 t310 = some r) ∧ Aside0 (kq ≤ kj2) ∧ Aside0 (Kd.R Kd.string 9 wc w.heap.size (fun _ => True) (.slice Ao35 t304.length co35) t304) ∧ Aside0 (Kd.R k40 40 wc w.heap.size (fun _ => True) (.slice Ao38 t307.length co38) t307) ∧ Aside0 (Kd.R (Kd.int .i64) 3 wc w.heap.size (fun _ => True) (.slice Ao39 t310.length co39) t310) ∧ Aside0 (wc.heap[gb301]? = some (.cells #[(.slice A0_0 l0_0.length c0_0), (.slice (some ad315) l0_1.length c0_1), (.slice A0_2 l0_2.length c0_2)] 25 (0, 0))) ∧ Aside0 (wc.heap[gb314]? = some (.cells #[(.slice Ao35 t304.length co35), (.slice Ao38 t307.length co38), (.slice Ao39 t310.length co39)] 31 (0, 0))) ∧ Aside0 (Below w.heap.size w wc))
         case first =>
          have H := HC31.out
          clear HC31
          by_cases c43 : t313 = true
          ·subst c43
           have H1 : (if (rd l0_1 (ji25)) < 0 then (eyewitnesslaw22_RunSwaps.j1 kj2 ji25 (rd l0_1 (ji25)) (rd l0_1 (ji28)) true l0_0 l0_1 l0_2 t304 t307 t310) else (if (rd l0_1 (ji28)) < 0 then (eyewitnesslaw22_RunSwaps.j1 kj2 ji25 (rd l0_1 (ji25)) (rd l0_1 (ji28)) true l0_0 l0_1 l0_2 t304 t307 t310) else (if (rd l0_1 (ji25)) ≥ (t307.length : Int) then (eyewitnesslaw22_RunSwaps.j1 kj2 ji25 (rd l0_1 (ji25)) (rd l0_1 (ji28)) true l0_0 l0_1 l0_2 t304 t307 t310) else (if (rd l0_1 (ji28)) ≥ (t307.length : Int) then (eyewitnesslaw22_RunSwaps.j1 kj2 ji25 (rd l0_1 (ji25)) (rd l0_1 (ji28)) true l0_0 l0_1 l0_2 t304 t307 t310) else (if 0 ≤ (rd l0_1 (ji25)) then (if (rd l0_1 (ji25)) < (t307.length : Int) then (if 0 ≤ (rd l0_1 (ji28)) then (if (rd l0_1 (ji28)) < (t307.length : Int) then (eyewitnesslaw22_RunSwaps.j1 kj2 ji25 (rd l0_1 (ji25)) (rd l0_1 (ji28)) (((rd_T40 t307 (rd l0_1 (ji25))).f3) == ((rd_T40 t307 (rd l0_1 (ji28))).f3)) l0_0 l0_1 l0_2 t304 t307 t310) else (none)) else (none)) else (none)) else (none)))))) = some r := by rw [if_pos rfl] at H; exact H
           clear H
           have H := H1
           clear H1
           by_cases c44 : (rd l0_1 (ji25)) < 0
           ·rw [if_pos c44] at H
            have c44b0 : decide ((rd l0_1 (ji25)) < 0) = true := decide_eq_true c44
            clear c44
            (first | rw [c44b0] | (simp only [i64_w, i32_w]; rw [c44b0]) | skip)
            have H' := Aside0.mk H
            clear H
            try go_wp2
            have n0_ := Aside0.mk (Kd.R_drew HO306.out)
            have n1_ := Aside0.mk (Kd.R_drew HO309.out)
            have n2_ := Aside0.mk (Kd.R_drew HO312.out)
            have n3_ := Aside0.mk (blk_drew BK301.out)
            have n4_ := Aside0.mk (blk_drew BK314.out)
            have n5_ := Aside0.mk (below_drew1 HB.out)
            clear HO306
            clear HO309
            clear HO312
            clear BK301
            clear BK314
            clear HB
            have HO306 := n0_
            have HO309 := n1_
            have HO312 := n2_
            have BK301 := n3_
            have BK314 := n4_
            have HB := n5_
            clear n0_ n1_ n2_ n3_ n4_ n5_
            refine start_ (n := 39) (S := fun w' => True) (ds := []) (bl 39 0) (by kernel_rfl) rfl rfl trivial (fun hHeld => ?_); refine with_tabW eyewitnesslaw22_RunSwaps.tab6 eyewitnesslaw22_RunSwaps.bits6 (fun HT_ HW_ => ?_)
            generalize w42.drew = w45 at HO306 HO309 HO312 BK301 BK314 HB hHeld ⊢
            refine pX 0 58 (bl 39 1) HT_ rfl rfl kA (fun _ _ _ h => h) yA hA ?_
            refine pX 1 59 (bl 39 3) HT_ rfl rfl kA (fun _ _ _ h => h) yA hA ?_
            refine pX 2 60 (bl 39 7) HT_ rfl rfl kA (fun _ _ _ h => h) yA hA ?_
            refine pX 3 61 (bl 39 15) HT_ rfl rfl kA (fun _ _ _ h => h) yA hA ?_
            refine pX 4 62 (bl 39 31) HT_ rfl rfl kA (fun _ _ _ h => h) yA hA ?_
            refine pX 5 63 (bl 39 63) HT_ rfl rfl kA (fun _ _ _ h => h) yA hA ?_
            refine pX 6 64 (bl 39 127) HT_ rfl rfl kA (fun _ _ _ h => h) yA hA ?_
            refine pU 7 65 (bl 39 255) HT_ rfl rfl kA (fun _ _ _ h => h) (by rfl) hA ?_
            refine pU 8 66 (bl 39 511) HT_ rfl rfl kA (fun _ _ _ h => h) (by rfl) hA ?_
            refine pX 9 67 (bl 39 1023) HT_ rfl rfl kA (fun _ _ _ h => h) yA hA ?_
            refine pX 10 68 (bl 39 2047) HT_ rfl rfl kA (fun _ _ _ h => h) yA hA ?_
            refine pU 11 69 (bl 39 4095) HT_ rfl rfl kA (fun _ _ _ h => h) (by rfl) hA ?_
            refine pU 12 70 (bl 39 8191) HT_ rfl rfl kA (fun _ _ _ h => h) (by rfl) hA ?_
            refine pU 13 71 (bl 39 16383) HT_ rfl rfl kA (fun _ _ _ h => h) (by rfl) hA ?_
            refine pU 14 72 (bl 39 32767) HT_ rfl rfl kA (fun _ _ _ h => h) (by rfl) hA ?_
            refine pU 15 73 (bl 39 65535) HT_ rfl rfl kA (fun _ _ _ h => h) (by rfl) hA ?_
            refine pX 16 74 (bl 39 131071) HT_ rfl rfl kA (fun _ _ _ h => h) yA hA ?_
            refine pX 17 75 (bl 39 262143) HT_ rfl rfl kA (fun _ _ _ h => h) yA hA ?_
            refine pU 18 76 (bl 39 524287) HT_ rfl rfl kA (fun _ _ _ h => h) (by rfl) hA ?_
            refine pU 19 77 (bl 39 1048575) HT_ rfl rfl kA (fun _ _ _ h => h) (by rfl) hA ?_
            refine pU 20 78 (bl 39 2097151) HT_ rfl rfl kA (fun _ _ _ h => h) (by rfl) hA ?_
            refine pU 21 79 (bl 39 4194303) HT_ rfl rfl kA (fun _ _ _ h => h) (by rfl) hA ?_
            refine pU 22 80 (bl 39 8388607) HT_ rfl rfl kA (fun _ _ _ h => h) (by rfl) hA ?_
            refine pX 23 81 (bl 39 16777215) HT_ rfl rfl kA (fun _ _ _ h => h) yA hA ?_
            refine pX 24 82 (bl 39 33554431) HT_ rfl rfl kA (fun _ _ _ h => h) yA hA ?_
            refine pU 25 83 (bl 39 67108863) HT_ rfl rfl kA (fun _ _ _ h => h) (by rfl) hA ?_
            refine pU 26 84 (bl 39 134217727) HT_ rfl rfl kA (fun _ _ _ h => h) (by rfl) hA ?_
            refine pU 27 85 (bl 39 268435455) HT_ rfl rfl kA (fun _ _ _ h => h) (by rfl) hA ?_
            refine pU 28 86 (bl 39 536870911) HT_ rfl rfl kA (fun _ _ _ h => h) (by rfl) hA ?_
            refine pU 29 87 (bl 39 1073741823) HT_ rfl rfl kA (fun _ _ _ h => h) (by rfl) hA ?_
            refine pU 30 88 (bl 39 2147483647) HT_ rfl rfl kA (fun _ _ _ h => h) (by rfl) hA ?_
            refine pU 31 89 (bl 39 4294967295) HT_ rfl rfl kA (fun _ _ _ h => h) (by rfl) hA ?_
            refine pU 32 90 (bl 39 8589934591) HT_ rfl rfl kA (fun _ _ _ h => h) (by rfl) hA ?_
            refine pU 33 91 (bl 39 17179869183) HT_ rfl rfl kA (fun _ _ _ h => h) (by rfl) hA ?_
            refine pU 34 92 (bl 39 34359738367) HT_ rfl rfl kA (fun _ _ _ h => h) (by rfl) hA ?_
            refine pU 35 93 (bl 39 68719476735) HT_ rfl rfl kA (fun _ _ _ h => h) (by rfl) hA ?_
            refine pU 36 94 (bl 39 137438953471) HT_ rfl rfl kA (fun _ _ _ h => h) (by rfl) hA ?_
            refine pU 37 95 (bl 39 274877906943) HT_ rfl rfl kA (fun _ _ _ h => h) (by rfl) hA ?_
            refine pX 38 96 (bl 39 549755813887) HT_ rfl rfl kA (fun _ _ _ h => h) yA hA ?_
            refine done_ (done_of HT_.out (by kernel_rfl)) ?_
            try go_wp2
            go_meet
            case rel => exact ⟨_, (true), (by first | rfl | (simp; done) | (simp [*]; done)), H', ⟨by have := HJ2.out; first | omega | exact Nat.le_refl _⟩, ⟨by (with_reducible repeat (first | apply Kd.R_alloc | apply Kd.R_drewN | apply Kd.R_drew)); exact HO306.out⟩, ⟨by (with_reducible repeat (first | apply Kd.R_alloc | apply Kd.R_drewN | apply Kd.R_drew)); exact HO309.out⟩, ⟨by (with_reducible repeat (first | apply Kd.R_alloc | apply Kd.R_drewN | apply Kd.R_drew)); exact HO312.out⟩, ⟨by (with_reducible repeat (first | refine blk_drewN ?_ _ | refine blk_drew ?_ | refine blk_alloc ?_ _)); exact BK301.out⟩, ⟨by (with_reducible repeat (first | refine blk_drewN ?_ _ | refine blk_drew ?_ | refine blk_alloc ?_ _)); exact BK314.out⟩, ⟨tH⟩⟩
           ·rw [if_neg c44] at H
            have c44b0 : decide ((rd l0_1 (ji25)) < 0) = false := decide_eq_false c44
            clear c44
            (first | rw [c44b0] | (simp only [i64_w, i32_w]; rw [c44b0]) | skip)
            by_cases c46 : (rd l0_1 (ji28)) < 0
            ·rw [if_pos c46] at H
             have c46b0 : decide ((rd l0_1 (ji28)) < 0) = true := decide_eq_true c46
             clear c46
             have H' := Aside0.mk H
             clear H
             try go_wp2
             have n0_ := Aside0.mk (Kd.R_drew HO306.out)
             have n1_ := Aside0.mk (Kd.R_drew HO309.out)
             have n2_ := Aside0.mk (Kd.R_drew HO312.out)
             have n3_ := Aside0.mk (blk_drew BK301.out)
             have n4_ := Aside0.mk (blk_drew BK314.out)
             have n5_ := Aside0.mk (below_drew1 HB.out)
             clear HO306
             clear HO309
             clear HO312
             clear BK301
             clear BK314
             clear HB
             have HO306 := n0_
             have HO309 := n1_
             have HO312 := n2_
             have BK301 := n3_
             have BK314 := n4_
             have HB := n5_
             clear n0_ n1_ n2_ n3_ n4_ n5_
             refine start_ (n := 39) (S := fun w' => True) (ds := []) (bl 39 0) (by kernel_rfl) rfl rfl trivial (fun hHeld => ?_); refine with_tabW eyewitnesslaw22_RunSwaps.tab6 eyewitnesslaw22_RunSwaps.bits6 (fun HT_ HW_ => ?_)
             generalize w42.drew = w47 at HO306 HO309 HO312 BK301 BK314 HB hHeld ⊢
             refine pX 0 58 (bl 39 1) HT_ rfl rfl kA (fun _ _ _ h => h) yA hA ?_
             refine pX 1 59 (bl 39 3) HT_ rfl rfl kA (fun _ _ _ h => h) yA hA ?_
             refine pX 2 60 (bl 39 7) HT_ rfl rfl kA (fun _ _ _ h => h) yA hA ?_
             refine pX 3 61 (bl 39 15) HT_ rfl rfl kA (fun _ _ _ h => h) yA hA ?_
             refine pX 4 62 (bl 39 31) HT_ rfl rfl kA (fun _ _ _ h => h) yA hA ?_
             refine pX 5 63 (bl 39 63) HT_ rfl rfl kA (fun _ _ _ h => h) yA hA ?_
             refine pX 6 64 (bl 39 127) HT_ rfl rfl kA (fun _ _ _ h => h) yA hA ?_
             refine pX 7 65 (bl 39 255) HT_ rfl rfl kA (fun _ _ _ h => h) yA hA ?_
             refine pX 8 66 (bl 39 511) HT_ rfl rfl kA (fun _ _ _ h => h) yA hA ?_
             refine pX 9 67 (bl 39 1023) HT_ rfl rfl kA (fun _ _ _ h => h) yA hA ?_
             refine pX 10 68 (bl 39 2047) HT_ rfl rfl kA (fun _ _ _ h => h) yA hA ?_
             refine pU 11 69 (bl 39 4095) HT_ rfl rfl kA (fun _ _ _ h => h) (by rfl) hA ?_
             refine pU 12 70 (bl 39 8191) HT_ rfl rfl kA (fun _ _ _ h => h) (by rfl) hA ?_
             refine pU 13 71 (bl 39 16383) HT_ rfl rfl kA (fun _ _ _ h => h) (by rfl) hA ?_
             refine pU 14 72 (bl 39 32767) HT_ rfl rfl kA (fun _ _ _ h => h) (by rfl) hA ?_
             refine pU 15 73 (bl 39 65535) HT_ rfl rfl kA (fun _ _ _ h => h) (by rfl) hA ?_
             refine pX 16 74 (bl 39 131071) HT_ rfl rfl kA (fun _ _ _ h => h) yA hA ?_
             refine pX 17 75 (bl 39 262143) HT_ rfl rfl kA (fun _ _ _ h => h) yA hA ?_
             refine pU 18 76 (bl 39 524287) HT_ rfl rfl kA (fun _ _ _ h => h) (by rfl) hA ?_
             refine pU 19 77 (bl 39 1048575) HT_ rfl rfl kA (fun _ _ _ h => h) (by rfl) hA ?_
             refine pU 20 78 (bl 39 2097151) HT_ rfl rfl kA (fun _ _ _ h => h) (by rfl) hA ?_
             refine pU 21 79 (bl 39 4194303) HT_ rfl rfl kA (fun _ _ _ h => h) (by rfl) hA ?_
             refine pU 22 80 (bl 39 8388607) HT_ rfl rfl kA (fun _ _ _ h => h) (by rfl) hA ?_
             refine pX 23 81 (bl 39 16777215) HT_ rfl rfl kA (fun _ _ _ h => h) yA hA ?_
             refine pX 24 82 (bl 39 33554431) HT_ rfl rfl kA (fun _ _ _ h => h) yA hA ?_
             refine pU 25 83 (bl 39 67108863) HT_ rfl rfl kA (fun _ _ _ h => h) (by rfl) hA ?_
             refine pU 26 84 (bl 39 134217727) HT_ rfl rfl kA (fun _ _ _ h => h) (by rfl) hA ?_
             refine pU 27 85 (bl 39 268435455) HT_ rfl rfl kA (fun _ _ _ h => h) (by rfl) hA ?_
             refine pU 28 86 (bl 39 536870911) HT_ rfl rfl kA (fun _ _ _ h => h) (by rfl) hA ?_
             refine pU 29 87 (bl 39 1073741823) HT_ rfl rfl kA (fun _ _ _ h => h) (by rfl) hA ?_
             refine pU 30 88 (bl 39 2147483647) HT_ rfl rfl kA (fun _ _ _ h => h) (by rfl) hA ?_
             refine pU 31 89 (bl 39 4294967295) HT_ rfl rfl kA (fun _ _ _ h => h) (by rfl) hA ?_
             refine pU 32 90 (bl 39 8589934591) HT_ rfl rfl kA (fun _ _ _ h => h) (by rfl) hA ?_
             refine pU 33 91 (bl 39 17179869183) HT_ rfl rfl kA (fun _ _ _ h => h) (by rfl) hA ?_
             refine pU 34 92 (bl 39 34359738367) HT_ rfl rfl kA (fun _ _ _ h => h) (by rfl) hA ?_
             refine pU 35 93 (bl 39 68719476735) HT_ rfl rfl kA (fun _ _ _ h => h) (by rfl) hA ?_
             refine pU 36 94 (bl 39 137438953471) HT_ rfl rfl kA (fun _ _ _ h => h) (by rfl) hA ?_
             refine pU 37 95 (bl 39 274877906943) HT_ rfl rfl kA (fun _ _ _ h => h) (by rfl) hA ?_
             refine pX 38 96 (bl 39 549755813887) HT_ rfl rfl kA (fun _ _ _ h => h) yA hA ?_
             refine done_ (done_of HT_.out (by kernel_rfl)) ?_
             try go_wp2
             go_meet
             case rel => exact ⟨_, (true), (by first | rfl | (simp; done) | (simp [*]; done)), H', ⟨by have := HJ2.out; first | omega | exact Nat.le_refl _⟩, ⟨by (with_reducible repeat (first | apply Kd.R_alloc | apply Kd.R_drewN | apply Kd.R_drew)); exact HO306.out⟩, ⟨by (with_reducible repeat (first | apply Kd.R_alloc | apply Kd.R_drewN | apply Kd.R_drew)); exact HO309.out⟩, ⟨by (with_reducible repeat (first | apply Kd.R_alloc | apply Kd.R_drewN | apply Kd.R_drew)); exact HO312.out⟩, ⟨by (with_reducible repeat (first | refine blk_drewN ?_ _ | refine blk_drew ?_ | refine blk_alloc ?_ _)); exact BK301.out⟩, ⟨by (with_reducible repeat (first | refine blk_drewN ?_ _ | refine blk_drew ?_ | refine blk_alloc ?_ _)); exact BK314.out⟩, ⟨tH⟩⟩
            ·rw [if_neg c46] at H
             have c46b0 : decide ((rd l0_1 (ji28)) < 0) = false := decide_eq_false c46
             clear c46
             by_cases c48 : (rd l0_1 (ji25)) ≥ (t307.length : Int)
             ·rw [if_pos c48] at H
              have c48b0 : decide ((t307.length : Int) ≤ (rd l0_1 (ji25))) = true := decide_eq_true c48
              clear c48
              have H' := Aside0.mk H
              clear H
              try go_wp2
              have n0_ := Aside0.mk (Kd.R_drew HO306.out)
              have n1_ := Aside0.mk (Kd.R_drew HO309.out)
              have n2_ := Aside0.mk (Kd.R_drew HO312.out)
              have n3_ := Aside0.mk (blk_drew BK301.out)
              have n4_ := Aside0.mk (blk_drew BK314.out)
              have n5_ := Aside0.mk (below_drew1 HB.out)
              clear HO306
              clear HO309
              clear HO312
              clear BK301
              clear BK314
              clear HB
              have HO306 := n0_
              have HO309 := n1_
              have HO312 := n2_
              have BK301 := n3_
              have BK314 := n4_
              have HB := n5_
              clear n0_ n1_ n2_ n3_ n4_ n5_
              refine start_ (n := 39) (S := fun w' => w'.cell? ⟨gb314, 0, none⟩ = some (.slice Ao35 t304.length co35) ∧ w'.cell? ⟨gb314, 1, none⟩ = some (.slice Ao38 t307.length co38) ∧ w'.cell? ⟨gb314, 2, none⟩ = some (.slice Ao39 t310.length co39)) (ds := []) (bl 39 0) (by kernel_rfl) rfl rfl ⟨(blk_cell BK314.out 0).trans rfl, (blk_cell BK314.out 1).trans rfl, (blk_cell BK314.out 2).trans rfl⟩ (fun hHeld => ?_); refine with_tabW eyewitnesslaw22_RunSwaps.tab6 eyewitnesslaw22_RunSwaps.bits6 (fun HT_ HW_ => ?_)
              generalize w42.drew = w49 at HO306 HO309 HO312 BK301 BK314 HB hHeld ⊢
              refine pX 0 58 (bl 39 1) HT_ rfl rfl kA (fun _ _ _ h => h) yA hA ?_
              refine pX 1 59 (bl 39 3) HT_ rfl rfl kA (fun _ _ _ h => h) yA hA ?_
              refine pX 2 60 (bl 39 7) HT_ rfl rfl kA (fun _ _ _ h => h) yA hA ?_
              refine pX 3 61 (bl 39 15) HT_ rfl rfl kA (fun _ _ _ h => h) yA hA ?_
              refine pX 4 62 (bl 39 31) HT_ rfl rfl kA (fun _ _ _ h => h) yA hA ?_
              refine pX 5 63 (bl 39 63) HT_ rfl rfl kA (fun _ _ _ h => h) yA hA ?_
              refine pX 6 64 (bl 39 127) HT_ rfl rfl kA (fun _ _ _ h => h) yA hA ?_
              refine pX 7 65 (bl 39 255) HT_ rfl rfl kA (fun _ _ _ h => h) yA hA ?_
              refine pX 8 66 (bl 39 511) HT_ rfl rfl kA (fun _ _ _ h => h) yA hA ?_
              refine pX 9 67 (bl 39 1023) HT_ rfl rfl kA (fun _ _ _ h => h) yA hA ?_
              refine pX 10 68 (bl 39 2047) HT_ rfl rfl kA (fun _ _ _ h => h) yA hA ?_
              refine pX 11 69 (bl 39 4095) HT_ rfl rfl kA (fun _ _ _ h => h) yA hA ?_
              refine pX 12 70 (bl 39 8191) HT_ rfl rfl kA (fun _ _ _ h => h) yA hA ?_
              refine pT 13 71 (bl 39 16383) HT_ HW_ rfl rfl kA (fun _ _ _ h => h) yS hHeld hA ?_
              refine pX 14 72 (bl 39 32767) HT_ rfl rfl kA (fun _ _ _ h => h) yA hA ?_
              refine pX 15 73 (bl 39 65535) HT_ rfl rfl kA (fun _ _ _ h => h) yA hA ?_
              refine pX 16 74 (bl 39 131071) HT_ rfl rfl kA (fun _ _ _ h => h) yA hA ?_
              refine pX 17 75 (bl 39 262143) HT_ rfl rfl kA (fun _ _ _ h => h) yA hA ?_
              refine pU 18 76 (bl 39 524287) HT_ rfl rfl kA (fun _ _ _ h => h) (by rfl) hA ?_
              refine pU 19 77 (bl 39 1048575) HT_ rfl rfl kA (fun _ _ _ h => h) (by rfl) hA ?_
              refine pU 20 78 (bl 39 2097151) HT_ rfl rfl kA (fun _ _ _ h => h) (by rfl) hA ?_
              refine pU 21 79 (bl 39 4194303) HT_ rfl rfl kA (fun _ _ _ h => h) (by rfl) hA ?_
              refine pU 22 80 (bl 39 8388607) HT_ rfl rfl kA (fun _ _ _ h => h) (by rfl) hA ?_
              refine pX 23 81 (bl 39 16777215) HT_ rfl rfl kA (fun _ _ _ h => h) yA hA ?_
              refine pX 24 82 (bl 39 33554431) HT_ rfl rfl kA (fun _ _ _ h => h) yA hA ?_
              refine pU 25 83 (bl 39 67108863) HT_ rfl rfl kA (fun _ _ _ h => h) (by rfl) hA ?_
              refine pU 26 84 (bl 39 134217727) HT_ rfl rfl kA (fun _ _ _ h => h) (by rfl) hA ?_
              refine pU 27 85 (bl 39 268435455) HT_ rfl rfl kA (fun _ _ _ h => h) (by rfl) hA ?_
              refine pU 28 86 (bl 39 536870911) HT_ rfl rfl kA (fun _ _ _ h => h) (by rfl) hA ?_
              refine pU 29 87 (bl 39 1073741823) HT_ rfl rfl kA (fun _ _ _ h => h) (by rfl) hA ?_
              refine pU 30 88 (bl 39 2147483647) HT_ rfl rfl kA (fun _ _ _ h => h) (by rfl) hA ?_
              refine pU 31 89 (bl 39 4294967295) HT_ rfl rfl kA (fun _ _ _ h => h) (by rfl) hA ?_
              refine pU 32 90 (bl 39 8589934591) HT_ rfl rfl kA (fun _ _ _ h => h) (by rfl) hA ?_
              refine pU 33 91 (bl 39 17179869183) HT_ rfl rfl kA (fun _ _ _ h => h) (by rfl) hA ?_
              refine pU 34 92 (bl 39 34359738367) HT_ rfl rfl kA (fun _ _ _ h => h) (by rfl) hA ?_
              refine pU 35 93 (bl 39 68719476735) HT_ rfl rfl kA (fun _ _ _ h => h) (by rfl) hA ?_
              refine pU 36 94 (bl 39 137438953471) HT_ rfl rfl kA (fun _ _ _ h => h) (by rfl) hA ?_
              refine pU 37 95 (bl 39 274877906943) HT_ rfl rfl kA (fun _ _ _ h => h) (by rfl) hA ?_
              refine pX 38 96 (bl 39 549755813887) HT_ rfl rfl kA (fun _ _ _ h => h) yA hA ?_
              refine done_ (done_of HT_.out (by kernel_rfl)) ?_
              try go_wp2
              go_meet
              case rel => exact ⟨_, (true), (by first | rfl | (simp; done) | (simp [*]; done)), H', ⟨by have := HJ2.out; first | omega | exact Nat.le_refl _⟩, ⟨by (with_reducible repeat (first | apply Kd.R_alloc | apply Kd.R_drewN | apply Kd.R_drew)); exact HO306.out⟩, ⟨by (with_reducible repeat (first | apply Kd.R_alloc | apply Kd.R_drewN | apply Kd.R_drew)); exact HO309.out⟩, ⟨by (with_reducible repeat (first | apply Kd.R_alloc | apply Kd.R_drewN | apply Kd.R_drew)); exact HO312.out⟩, ⟨by (with_reducible repeat (first | refine blk_drewN ?_ _ | refine blk_drew ?_ | refine blk_alloc ?_ _)); exact BK301.out⟩, ⟨by (with_reducible repeat (first | refine blk_drewN ?_ _ | refine blk_drew ?_ | refine blk_alloc ?_ _)); exact BK314.out⟩, ⟨tH⟩⟩
             ·rw [if_neg c48] at H
              have c48b0 : decide ((t307.length : Int) ≤ (rd l0_1 (ji25))) = false := decide_eq_false c48
              clear c48
              by_cases c50 : (rd l0_1 (ji28)) ≥ (t307.length : Int)
              ·rw [if_pos c50] at H
               have c50b0 : decide ((t307.length : Int) ≤ (rd l0_1 (ji28))) = true := decide_eq_true c50
               clear c50
               have H' := Aside0.mk H
               clear H
               try go_wp2
               have n0_ := Aside0.mk (Kd.R_drew HO306.out)
               have n1_ := Aside0.mk (Kd.R_drew HO309.out)
               have n2_ := Aside0.mk (Kd.R_drew HO312.out)
               have n3_ := Aside0.mk (blk_drew BK301.out)
               have n4_ := Aside0.mk (blk_drew BK314.out)
               have n5_ := Aside0.mk (below_drew1 HB.out)
               clear HO306
               clear HO309
               clear HO312
               clear BK301
               clear BK314
               clear HB
               have HO306 := n0_
               have HO309 := n1_
               have HO312 := n2_
               have BK301 := n3_
               have BK314 := n4_
               have HB := n5_
               clear n0_ n1_ n2_ n3_ n4_ n5_
               refine start_ (n := 39) (S := fun w' => w'.cell? ⟨gb314, 0, none⟩ = some (.slice Ao35 t304.length co35) ∧ w'.cell? ⟨gb314, 1, none⟩ = some (.slice Ao38 t307.length co38) ∧ w'.cell? ⟨gb314, 2, none⟩ = some (.slice Ao39 t310.length co39)) (ds := []) (bl 39 0) (by kernel_rfl) rfl rfl ⟨(blk_cell BK314.out 0).trans rfl, (blk_cell BK314.out 1).trans rfl, (blk_cell BK314.out 2).trans rfl⟩ (fun hHeld => ?_); refine with_tabW eyewitnesslaw22_RunSwaps.tab6 eyewitnesslaw22_RunSwaps.bits6 (fun HT_ HW_ => ?_)
               generalize w42.drew = w51 at HO306 HO309 HO312 BK301 BK314 HB hHeld ⊢
               refine pX 0 58 (bl 39 1) HT_ rfl rfl kA (fun _ _ _ h => h) yA hA ?_
               refine pX 1 59 (bl 39 3) HT_ rfl rfl kA (fun _ _ _ h => h) yA hA ?_
               refine pX 2 60 (bl 39 7) HT_ rfl rfl kA (fun _ _ _ h => h) yA hA ?_
               refine pX 3 61 (bl 39 15) HT_ rfl rfl kA (fun _ _ _ h => h) yA hA ?_
               refine pX 4 62 (bl 39 31) HT_ rfl rfl kA (fun _ _ _ h => h) yA hA ?_
               refine pX 5 63 (bl 39 63) HT_ rfl rfl kA (fun _ _ _ h => h) yA hA ?_
               refine pX 6 64 (bl 39 127) HT_ rfl rfl kA (fun _ _ _ h => h) yA hA ?_
               refine pX 7 65 (bl 39 255) HT_ rfl rfl kA (fun _ _ _ h => h) yA hA ?_
               refine pX 8 66 (bl 39 511) HT_ rfl rfl kA (fun _ _ _ h => h) yA hA ?_
               refine pX 9 67 (bl 39 1023) HT_ rfl rfl kA (fun _ _ _ h => h) yA hA ?_
               refine pX 10 68 (bl 39 2047) HT_ rfl rfl kA (fun _ _ _ h => h) yA hA ?_
               refine pX 11 69 (bl 39 4095) HT_ rfl rfl kA (fun _ _ _ h => h) yA hA ?_
               refine pX 12 70 (bl 39 8191) HT_ rfl rfl kA (fun _ _ _ h => h) yA hA ?_
               refine pT 13 71 (bl 39 16383) HT_ HW_ rfl rfl kA (fun _ _ _ h => h) yS hHeld hA ?_
               refine pX 14 72 (bl 39 32767) HT_ rfl rfl kA (fun _ _ _ h => h) yA hA ?_
               refine pX 15 73 (bl 39 65535) HT_ rfl rfl kA (fun _ _ _ h => h) yA hA ?_
               refine pX 16 74 (bl 39 131071) HT_ rfl rfl kA (fun _ _ _ h => h) yA hA ?_
               refine pX 17 75 (bl 39 262143) HT_ rfl rfl kA (fun _ _ _ h => h) yA hA ?_
               refine pX 18 76 (bl 39 524287) HT_ rfl rfl kA (fun _ _ _ h => h) yA hA ?_
               refine pX 19 77 (bl 39 1048575) HT_ rfl rfl kA (fun _ _ _ h => h) yA hA ?_
               refine pT 20 78 (bl 39 2097151) HT_ HW_ rfl rfl kA (fun _ _ _ h => h) yS hHeld hA ?_
               refine pX 21 79 (bl 39 4194303) HT_ rfl rfl kA (fun _ _ _ h => h) yA hA ?_
               refine pX 22 80 (bl 39 8388607) HT_ rfl rfl kA (fun _ _ _ h => h) yA hA ?_
               refine pX 23 81 (bl 39 16777215) HT_ rfl rfl kA (fun _ _ _ h => h) yA hA ?_
               refine pX 24 82 (bl 39 33554431) HT_ rfl rfl kA (fun _ _ _ h => h) yA hA ?_
               refine pU 25 83 (bl 39 67108863) HT_ rfl rfl kA (fun _ _ _ h => h) (by rfl) hA ?_
               refine pU 26 84 (bl 39 134217727) HT_ rfl rfl kA (fun _ _ _ h => h) (by rfl) hA ?_
               refine pU 27 85 (bl 39 268435455) HT_ rfl rfl kA (fun _ _ _ h => h) (by rfl) hA ?_
               refine pU 28 86 (bl 39 536870911) HT_ rfl rfl kA (fun _ _ _ h => h) (by rfl) hA ?_
               refine pU 29 87 (bl 39 1073741823) HT_ rfl rfl kA (fun _ _ _ h => h) (by rfl) hA ?_
               refine pU 30 88 (bl 39 2147483647) HT_ rfl rfl kA (fun _ _ _ h => h) (by rfl) hA ?_
               refine pU 31 89 (bl 39 4294967295) HT_ rfl rfl kA (fun _ _ _ h => h) (by rfl) hA ?_
               refine pU 32 90 (bl 39 8589934591) HT_ rfl rfl kA (fun _ _ _ h => h) (by rfl) hA ?_
               refine pU 33 91 (bl 39 17179869183) HT_ rfl rfl kA (fun _ _ _ h => h) (by rfl) hA ?_
               refine pU 34 92 (bl 39 34359738367) HT_ rfl rfl kA (fun _ _ _ h => h) (by rfl) hA ?_
               refine pU 35 93 (bl 39 68719476735) HT_ rfl rfl kA (fun _ _ _ h => h) (by rfl) hA ?_
               refine pU 36 94 (bl 39 137438953471) HT_ rfl rfl kA (fun _ _ _ h => h) (by rfl) hA ?_
               refine pU 37 95 (bl 39 274877906943) HT_ rfl rfl kA (fun _ _ _ h => h) (by rfl) hA ?_
               refine pX 38 96 (bl 39 549755813887) HT_ rfl rfl kA (fun _ _ _ h => h) yA hA ?_
               refine done_ (done_of HT_.out (by kernel_rfl)) ?_
               try go_wp2
               go_meet
               case rel => exact ⟨_, (true), (by first | rfl | (simp; done) | (simp [*]; done)), H', ⟨by have := HJ2.out; first | omega | exact Nat.le_refl _⟩, ⟨by (with_reducible repeat (first | apply Kd.R_alloc | apply Kd.R_drewN | apply Kd.R_drew)); exact HO306.out⟩, ⟨by (with_reducible repeat (first | apply Kd.R_alloc | apply Kd.R_drewN | apply Kd.R_drew)); exact HO309.out⟩, ⟨by (with_reducible repeat (first | apply Kd.R_alloc | apply Kd.R_drewN | apply Kd.R_drew)); exact HO312.out⟩, ⟨by (with_reducible repeat (first | refine blk_drewN ?_ _ | refine blk_drew ?_ | refine blk_alloc ?_ _)); exact BK301.out⟩, ⟨by (with_reducible repeat (first | refine blk_drewN ?_ _ | refine blk_drew ?_ | refine blk_alloc ?_ _)); exact BK314.out⟩, ⟨tH⟩⟩
              ·rw [if_neg c50] at H
               have c50b0 : decide ((t307.length : Int) ≤ (rd l0_1 (ji28))) = false := decide_eq_false c50
               clear c50
               by_cases c52 : 0 ≤ (rd l0_1 (ji25))
               ·rw [if_pos c52] at H
                have c52b0 : decide (0 ≤ (rd l0_1 (ji25))) = true := decide_eq_true c52
                clear c52
                by_cases c53 : (rd l0_1 (ji25)) < (t307.length : Int)
                ·rw [if_pos c53] at H
                 have c53b0 : decide ((rd l0_1 (ji25)) < (t307.length : Int)) = true := decide_eq_true c53
                 clear c53
                 by_cases c54 : 0 ≤ (rd l0_1 (ji28))
                 ·rw [if_pos c54] at H
                  have c54b0 : decide (0 ≤ (rd l0_1 (ji28))) = true := decide_eq_true c54
                  clear c54
                  by_cases c55 : (rd l0_1 (ji28)) < (t307.length : Int)
                  ·rw [if_pos c55] at H
                   have c55b0 : decide ((rd l0_1 (ji28)) < (t307.length : Int)) = true := decide_eq_true c55
                   clear c55
                   have H' := Aside0.mk H
                   clear H
                   try go_wp2
                   have n0_ := Aside0.mk (Kd.R_drew HO306.out)
                   have n1_ := Aside0.mk (Kd.R_drew HO309.out)
                   have n2_ := Aside0.mk (Kd.R_drew HO312.out)
                   have n3_ := Aside0.mk (blk_drew BK301.out)
                   have n4_ := Aside0.mk (blk_drew BK314.out)
                   have n5_ := Aside0.mk (below_drew1 HB.out)
                   clear HO306
                   clear HO309
                   clear HO312
                   clear BK301
                   clear BK314
                   clear HB
                   have HO306 := n0_
                   have HO309 := n1_
                   have HO312 := n2_
                   have BK301 := n3_
                   have BK314 := n4_
                   have HB := n5_
                   clear n0_ n1_ n2_ n3_ n4_ n5_
                   have p317 : 0 ≤ ((rd l0_1 (ji25)) : Int) := of_decide_eq_true aS
                   have q317 : (rd l0_1 (ji25)) < (t307.length : Int) := of_decide_eq_true aS
                   obtain ⟨ad317, e317, hx317_0, hx317_1, hx317_2, hx317_3, hx317_4⟩ := at_T40 (Kd.R_reads' HO309.out).2.2 (rd l0_1 (ji25)) p317 q317
                   cases e317
                   replace p317 := eq_true p317
                   replace q317 := eq_true q317
                   have p318 : 0 ≤ ((rd l0_1 (ji28)) : Int) := of_decide_eq_true aS
                   have q318 : (rd l0_1 (ji28)) < (t307.length : Int) := of_decide_eq_true aS
                   obtain ⟨ad318, e318, hx318_0, hx318_1, hx318_2, hx318_3, hx318_4⟩ := at_T40 (Kd.R_reads' HO309.out).2.2 (rd l0_1 (ji28)) p318 q318
                   obtain rfl : ad317 = ad318 := (by injection e318)
                   replace p318 := eq_true p318
                   replace q318 := eq_true q318
                   refine start_ (n := 39) (S := fun w' => w'.cell? ⟨gb314, 0, none⟩ = some (.slice Ao35 t304.length co35) ∧ w'.cell? ⟨gb314, 1, none⟩ = some (.slice (some ad317) t307.length co38) ∧ w'.cell? ⟨gb314, 2, none⟩ = some (.slice Ao39 t310.length co39) ∧ w'.cell? (ad317.add (((rd l0_1 (ji25))).toNat * 5)) = some (.int .i64 ((rd_T40 t307 (rd l0_1 (ji25))).f0)) ∧ w'.cell? ⟨(ad317.add (((rd l0_1 (ji25))).toNat * 5)).block, (ad317.add (((rd l0_1 (ji25))).toNat * 5)).off + 1, none⟩ = some (.int .i64 ((rd_T40 t307 (rd l0_1 (ji25))).f1)) ∧ w'.cell? ⟨(ad317.add (((rd l0_1 (ji25))).toNat * 5)).block, (ad317.add (((rd l0_1 (ji25))).toNat * 5)).off + 2, none⟩ = some (.bool ((rd_T40 t307 (rd l0_1 (ji25))).f2)) ∧ w'.cell? ⟨(ad317.add (((rd l0_1 (ji25))).toNat * 5)).block, (ad317.add (((rd l0_1 (ji25))).toNat * 5)).off + 3, none⟩ = some (.int .i64 ((rd_T40 t307 (rd l0_1 (ji25))).f3)) ∧ w'.cell? ⟨(ad317.add (((rd l0_1 (ji25))).toNat * 5)).block, (ad317.add (((rd l0_1 (ji25))).toNat * 5)).off + 4, none⟩ = some (.int .i64 ((rd_T40 t307 (rd l0_1 (ji25))).f4)) ∧ w'.cell? (ad317.add (((rd l0_1 (ji28))).toNat * 5)) = some (.int .i64 ((rd_T40 t307 (rd l0_1 (ji28))).f0)) ∧ w'.cell? ⟨(ad317.add (((rd l0_1 (ji28))).toNat * 5)).block, (ad317.add (((rd l0_1 (ji28))).toNat * 5)).off + 1, none⟩ = some (.int .i64 ((rd_T40 t307 (rd l0_1 (ji28))).f1)) ∧ w'.cell? ⟨(ad317.add (((rd l0_1 (ji28))).toNat * 5)).block, (ad317.add (((rd l0_1 (ji28))).toNat * 5)).off + 2, none⟩ = some (.bool ((rd_T40 t307 (rd l0_1 (ji28))).f2)) ∧ w'.cell? ⟨(ad317.add (((rd l0_1 (ji28))).toNat * 5)).block, (ad317.add (((rd l0_1 (ji28))).toNat * 5)).off + 3, none⟩ = some (.int .i64 ((rd_T40 t307 (rd l0_1 (ji28))).f3)) ∧ w'.cell? ⟨(ad317.add (((rd l0_1 (ji28))).toNat * 5)).block, (ad317.add (((rd l0_1 (ji28))).toNat * 5)).off + 4, none⟩ = some (.int .i64 ((rd_T40 t307 (rd l0_1 (ji28))).f4))) (ds := []) (bl 39 0) (by kernel_rfl) rfl rfl ⟨(blk_cell BK314.out 0).trans rfl, (blk_cell BK314.out 1).trans rfl, (blk_cell BK314.out 2).trans rfl, hx317_0, hx317_1, hx317_2, hx317_3, hx317_4, hx318_0, hx318_1, hx318_2, hx318_3, hx318_4⟩ (fun hHeld => ?_); refine with_tabW eyewitnesslaw22_RunSwaps.tab6 eyewitnesslaw22_RunSwaps.bits6 (fun HT_ HW_ => ?_)
                   generalize w42.drew = w56 at HO306 HO309 HO312 BK301 BK314 HB hx317_0 hx317_1 hx317_2 hx317_3 hx317_4 hx318_0 hx318_1 hx318_2 hx318_3 hx318_4 hHeld ⊢
                   refine pX 0 58 (bl 39 1) HT_ rfl rfl kA (fun _ _ _ h => h) yA hA ?_
                   refine pX 1 59 (bl 39 3) HT_ rfl rfl kA (fun _ _ _ h => h) yA hA ?_
                   refine pX 2 60 (bl 39 7) HT_ rfl rfl kA (fun _ _ _ h => h) yA hA ?_
                   refine pX 3 61 (bl 39 15) HT_ rfl rfl kA (fun _ _ _ h => h) yA hA ?_
                   refine pX 4 62 (bl 39 31) HT_ rfl rfl kA (fun _ _ _ h => h) yA hA ?_
                   refine pX 5 63 (bl 39 63) HT_ rfl rfl kA (fun _ _ _ h => h) yA hA ?_
                   refine pX 6 64 (bl 39 127) HT_ rfl rfl kA (fun _ _ _ h => h) yA hA ?_
                   refine pX 7 65 (bl 39 255) HT_ rfl rfl kA (fun _ _ _ h => h) yA hA ?_
                   refine pX 8 66 (bl 39 511) HT_ rfl rfl kA (fun _ _ _ h => h) yA hA ?_
                   refine pX 9 67 (bl 39 1023) HT_ rfl rfl kA (fun _ _ _ h => h) yA hA ?_
                   refine pX 10 68 (bl 39 2047) HT_ rfl rfl kA (fun _ _ _ h => h) yA hA ?_
                   refine pX 11 69 (bl 39 4095) HT_ rfl rfl kA (fun _ _ _ h => h) yA hA ?_
                   refine pX 12 70 (bl 39 8191) HT_ rfl rfl kA (fun _ _ _ h => h) yA hA ?_
                   refine pT 13 71 (bl 39 16383) HT_ HW_ rfl rfl kA (fun _ _ _ h => h) yS hHeld hA ?_
                   refine pX 14 72 (bl 39 32767) HT_ rfl rfl kA (fun _ _ _ h => h) yA hA ?_
                   refine pX 15 73 (bl 39 65535) HT_ rfl rfl kA (fun _ _ _ h => h) yA hA ?_
                   refine pX 16 74 (bl 39 131071) HT_ rfl rfl kA (fun _ _ _ h => h) yA hA ?_
                   refine pX 17 75 (bl 39 262143) HT_ rfl rfl kA (fun _ _ _ h => h) yA hA ?_
                   refine pX 18 76 (bl 39 524287) HT_ rfl rfl kA (fun _ _ _ h => h) yA hA ?_
                   refine pX 19 77 (bl 39 1048575) HT_ rfl rfl kA (fun _ _ _ h => h) yA hA ?_
                   refine pT 20 78 (bl 39 2097151) HT_ HW_ rfl rfl kA (fun _ _ _ h => h) yS hHeld hA ?_
                   refine pX 21 79 (bl 39 4194303) HT_ rfl rfl kA (fun _ _ _ h => h) yA hA ?_
                   refine pX 22 80 (bl 39 8388607) HT_ rfl rfl kA (fun _ _ _ h => h) yA hA ?_
                   refine pX 23 81 (bl 39 16777215) HT_ rfl rfl kA (fun _ _ _ h => h) yA hA ?_
                   refine pX 24 82 (bl 39 33554431) HT_ rfl rfl kA (fun _ _ _ h => h) yA hA ?_
                   refine pX 25 83 (bl 39 67108863) HT_ rfl rfl kA (fun _ _ _ h => h) yA hA ?_
                   refine pX 27 85 (bl 39 201326591) HT_ rfl rfl kA (fun _ _ _ h => h) yA hA ?_
                   refine pX 31 89 (bl 39 2348810239) HT_ rfl rfl kA (fun _ _ _ h => h) yA hA ?_
                   refine pX 33 91 (bl 39 10938744831) HT_ rfl rfl kA (fun _ _ _ h => h) yA hA ?_
                   refine pT 26 84 (bl 39 11005853695) HT_ HW_ rfl rfl kA (fun _ _ _ h => h) yS hHeld hA ?_
                   refine pX 28 86 (bl 39 11274289151) HT_ rfl rfl kA (fun _ _ _ h => h) yA hA ?_
                   refine pX 29 87 (bl 39 11811160063) HT_ rfl rfl kA (fun _ _ _ h => h) yA hA ?_
                   refine pT 30 88 (bl 39 12884901887) HT_ HW_ rfl rfl kA (fun _ _ _ h => h) yS hHeld hA ?_
                   refine pT 32 90 (bl 39 17179869183) HT_ HW_ rfl rfl kA (fun _ _ _ h => h) yS hHeld hA ?_
                   refine pX 34 92 (bl 39 34359738367) HT_ rfl rfl kA (fun _ _ _ h => h) yA hA ?_
                   refine pX 35 93 (bl 39 68719476735) HT_ rfl rfl kA (fun _ _ _ h => h) yA hA ?_
                   refine pT 36 94 (bl 39 137438953471) HT_ HW_ rfl rfl kA (fun _ _ _ h => h) yS hHeld hA ?_
                   refine pX 37 95 (bl 39 274877906943) HT_ rfl rfl kA (fun _ _ _ h => h) yA hA ?_
                   refine pX 38 96 (bl 39 549755813887) HT_ rfl rfl kA (fun _ _ _ h => h) yA hA ?_
                   refine done_ (done_of HT_.out (by kernel_rfl)) ?_
                   try go_wp2
                   go_meet
                   case rel => exact ⟨_, ((((rd_T40 t307 (rd l0_1 (ji25))).f3) == ((rd_T40 t307 (rd l0_1 (ji28))).f3))), (by first | rfl | (simp; done) | (simp only [← hji25, ← hji28] <;> (first | rfl | simp)) | (simp [*]; done)), H', ⟨by have := HJ2.out; first | omega | exact Nat.le_refl _⟩, ⟨by (with_reducible repeat (first | apply Kd.R_alloc | apply Kd.R_drewN | apply Kd.R_drew)); exact HO306.out⟩, ⟨by (with_reducible repeat (first | apply Kd.R_alloc | apply Kd.R_drewN | apply Kd.R_drew)); exact HO309.out⟩, ⟨by (with_reducible repeat (first | apply Kd.R_alloc | apply Kd.R_drewN | apply Kd.R_drew)); exact HO312.out⟩, ⟨by (with_reducible repeat (first | refine blk_drewN ?_ _ | refine blk_drew ?_ | refine blk_alloc ?_ _)); exact BK301.out⟩, ⟨by (with_reducible repeat (first | refine blk_drewN ?_ _ | refine blk_drew ?_ | refine blk_alloc ?_ _)); exact BK314.out⟩, ⟨tH⟩⟩
                  ·rw [if_neg c55] at H
                   exact absurd H (by simp)
                 ·rw [if_neg c54] at H
                  exact absurd H (by simp)
                ·rw [if_neg c53] at H
                 exact absurd H (by simp)
               ·rw [if_neg c52] at H
                exact absurd H (by simp)
          ·replace c43 := Bool.eq_false_iff.mpr c43
           subst c43
           have H1 : (eyewitnesslaw22_RunSwaps.j1 kj2 ji25 (rd l0_1 (ji25)) (rd l0_1 (ji28)) true l0_0 l0_1 l0_2 t304 t307 t310) = some r := by rw [if_neg (show ¬ (false = true) by decide)] at H; exact H
           clear H
           have H := H1
           clear H1
           have H' := Aside0.mk H
           clear H
           try go_wp2
           have n0_ := Aside0.mk (Kd.R_drew HO306.out)
           have n1_ := Aside0.mk (Kd.R_drew HO309.out)
           have n2_ := Aside0.mk (Kd.R_drew HO312.out)
           have n3_ := Aside0.mk (blk_drew BK301.out)
           have n4_ := Aside0.mk (blk_drew BK314.out)
           have n5_ := Aside0.mk (below_drew1 HB.out)
           clear HO306
           clear HO309
           clear HO312
           clear BK301
           clear BK314
           clear HB
           have HO306 := n0_
           have HO309 := n1_
           have HO312 := n2_
           have BK301 := n3_
           have BK314 := n4_
           have HB := n5_
           clear n0_ n1_ n2_ n3_ n4_ n5_
           refine start_ (n := 39) (S := fun w' => True) (ds := []) (bl 39 0) (by kernel_rfl) rfl rfl trivial (fun hHeld => ?_); refine with_tabW eyewitnesslaw22_RunSwaps.tab6 eyewitnesslaw22_RunSwaps.bits6 (fun HT_ HW_ => ?_)
           generalize w42.drew = w57 at HO306 HO309 HO312 BK301 BK314 HB hHeld ⊢
           refine pX 0 58 (bl 39 1) HT_ rfl rfl kA (fun _ _ _ h => h) yA hA ?_
           refine pX 1 59 (bl 39 3) HT_ rfl rfl kA (fun _ _ _ h => h) yA hA ?_
           refine pX 2 60 (bl 39 7) HT_ rfl rfl kA (fun _ _ _ h => h) yA hA ?_
           refine pU 3 61 (bl 39 15) HT_ rfl rfl kA (fun _ _ _ h => h) (by rfl) hA ?_
           refine pU 4 62 (bl 39 31) HT_ rfl rfl kA (fun _ _ _ h => h) (by rfl) hA ?_
           refine pX 5 63 (bl 39 63) HT_ rfl rfl kA (fun _ _ _ h => h) yA hA ?_
           refine pX 6 64 (bl 39 127) HT_ rfl rfl kA (fun _ _ _ h => h) yA hA ?_
           refine pU 7 65 (bl 39 255) HT_ rfl rfl kA (fun _ _ _ h => h) (by rfl) hA ?_
           refine pU 8 66 (bl 39 511) HT_ rfl rfl kA (fun _ _ _ h => h) (by rfl) hA ?_
           refine pX 9 67 (bl 39 1023) HT_ rfl rfl kA (fun _ _ _ h => h) yA hA ?_
           refine pX 10 68 (bl 39 2047) HT_ rfl rfl kA (fun _ _ _ h => h) yA hA ?_
           refine pU 11 69 (bl 39 4095) HT_ rfl rfl kA (fun _ _ _ h => h) (by rfl) hA ?_
           refine pU 12 70 (bl 39 8191) HT_ rfl rfl kA (fun _ _ _ h => h) (by rfl) hA ?_
           refine pU 13 71 (bl 39 16383) HT_ rfl rfl kA (fun _ _ _ h => h) (by rfl) hA ?_
           refine pU 14 72 (bl 39 32767) HT_ rfl rfl kA (fun _ _ _ h => h) (by rfl) hA ?_
           refine pU 15 73 (bl 39 65535) HT_ rfl rfl kA (fun _ _ _ h => h) (by rfl) hA ?_
           refine pX 16 74 (bl 39 131071) HT_ rfl rfl kA (fun _ _ _ h => h) yA hA ?_
           refine pX 17 75 (bl 39 262143) HT_ rfl rfl kA (fun _ _ _ h => h) yA hA ?_
           refine pU 18 76 (bl 39 524287) HT_ rfl rfl kA (fun _ _ _ h => h) (by rfl) hA ?_
           refine pU 19 77 (bl 39 1048575) HT_ rfl rfl kA (fun _ _ _ h => h) (by rfl) hA ?_
           refine pU 20 78 (bl 39 2097151) HT_ rfl rfl kA (fun _ _ _ h => h) (by rfl) hA ?_
           refine pU 21 79 (bl 39 4194303) HT_ rfl rfl kA (fun _ _ _ h => h) (by rfl) hA ?_
           refine pU 22 80 (bl 39 8388607) HT_ rfl rfl kA (fun _ _ _ h => h) (by rfl) hA ?_
           refine pX 23 81 (bl 39 16777215) HT_ rfl rfl kA (fun _ _ _ h => h) yA hA ?_
           refine pX 24 82 (bl 39 33554431) HT_ rfl rfl kA (fun _ _ _ h => h) yA hA ?_
           refine pU 25 83 (bl 39 67108863) HT_ rfl rfl kA (fun _ _ _ h => h) (by rfl) hA ?_
           refine pU 26 84 (bl 39 134217727) HT_ rfl rfl kA (fun _ _ _ h => h) (by rfl) hA ?_
           refine pU 27 85 (bl 39 268435455) HT_ rfl rfl kA (fun _ _ _ h => h) (by rfl) hA ?_
           refine pU 28 86 (bl 39 536870911) HT_ rfl rfl kA (fun _ _ _ h => h) (by rfl) hA ?_
           refine pU 29 87 (bl 39 1073741823) HT_ rfl rfl kA (fun _ _ _ h => h) (by rfl) hA ?_
           refine pU 30 88 (bl 39 2147483647) HT_ rfl rfl kA (fun _ _ _ h => h) (by rfl) hA ?_
           refine pU 31 89 (bl 39 4294967295) HT_ rfl rfl kA (fun _ _ _ h => h) (by rfl) hA ?_
           refine pU 32 90 (bl 39 8589934591) HT_ rfl rfl kA (fun _ _ _ h => h) (by rfl) hA ?_
           refine pU 33 91 (bl 39 17179869183) HT_ rfl rfl kA (fun _ _ _ h => h) (by rfl) hA ?_
           refine pU 34 92 (bl 39 34359738367) HT_ rfl rfl kA (fun _ _ _ h => h) (by rfl) hA ?_
           refine pU 35 93 (bl 39 68719476735) HT_ rfl rfl kA (fun _ _ _ h => h) (by rfl) hA ?_
           refine pU 36 94 (bl 39 137438953471) HT_ rfl rfl kA (fun _ _ _ h => h) (by rfl) hA ?_
           refine pU 37 95 (bl 39 274877906943) HT_ rfl rfl kA (fun _ _ _ h => h) (by rfl) hA ?_
           refine pX 38 96 (bl 39 549755813887) HT_ rfl rfl kA (fun _ _ _ h => h) yA hA ?_
           refine done_ (done_of HT_.out (by kernel_rfl)) ?_
           try go_wp2
           go_meet
           case rel => exact ⟨_, (true), (by first | rfl | (simp; done) | (simp [*]; done)), H', ⟨by have := HJ2.out; first | omega | exact Nat.le_refl _⟩, ⟨by (with_reducible repeat (first | apply Kd.R_alloc | apply Kd.R_drewN | apply Kd.R_drew)); exact HO306.out⟩, ⟨by (with_reducible repeat (first | apply Kd.R_alloc | apply Kd.R_drewN | apply Kd.R_drew)); exact HO309.out⟩, ⟨by (with_reducible repeat (first | apply Kd.R_alloc | apply Kd.R_drewN | apply Kd.R_drew)); exact HO312.out⟩, ⟨by (with_reducible repeat (first | refine blk_drewN ?_ _ | refine blk_drew ?_ | refine blk_alloc ?_ _)); exact BK301.out⟩, ⟨by (with_reducible repeat (first | refine blk_drewN ?_ _ | refine blk_drew ?_ | refine blk_alloc ?_ _)); exact BK314.out⟩, ⟨tH⟩⟩
         case rest =>
          clear HC31
          try clear p2
          try clear p3
          try clear q3
          try clear hx3
          try clear c4
          try clear c5
          try clear p31
          try clear q31
          try clear hx31
          try clear c43
          try clear c52
          try clear c53
          try clear c54
          try clear c55
          try clear hx317_0
          try clear hx317_1
          try clear hx317_2
          try clear hx317_3
          try clear hx317_4
          try clear hx318_0
          try clear hx318_1
          try clear hx318_2
          try clear hx318_3
          try clear hx318_4
          try clear p317
          try clear p318
          try clear q317
          try clear q318
          obtain ⟨kq, x96_30, rfl, HA, HJ30, HO_315000, HO_315001, HO_315002, BK301, BK314, HB⟩ := hcut
          cases kq with
          | zero => exact absurd HA.out (by simp [eyewitnesslaw22_RunSwaps.j1])
          | succ kj30 =>
           have H := HA.out
           clear HA
           simp only [eyewitnesslaw22_RunSwaps.j1] at H
           by_cases c58 : x96_30 = true
           ·subst c58
            have H1 : ((eyewitnesslaw22_awake.f kj30).bind fun t319 => (some t319)) = some r := by rw [if_pos rfl] at H; exact H
            clear H
            have H := H1
            clear H1
            replace H := Option.bind_eq_some_iff.mp H
            obtain ⟨t319, A590, H⟩ := H
            replace H : (some t319) = some r := H
            have A59 := Aside0.mk A590
            clear A590
            obtain rfl := Option.some.inj H
            go_wp2_with (first | ((with_reducible refine gate_callee (f := 7) rfl ?_); refine goesL_ (some 97) rfl rfl Try.func7 (by kernel_rfl) rfl #[] rfl (by (try simp only [List.map_toArray, List.map_cons, List.map_nil]); first | done | rfl | (simp only [List.length_drop, List.length_take]; rfl)) ?_; (with_reducible refine (eyewitnesslaw22_awake.calls kj30  t319 _ A59.out).mono ?_); rintro e w60 ⟨rfl, hb⟩; refine ⟨_, rfl, ?_⟩; have n0_ := Aside0.mk (Kd.R_below (tRr HO_315000) hb); have n1_ := Aside0.mk (Kd.R_below (tRr HO_315001) hb); have n2_ := Aside0.mk (Kd.R_below (tRr HO_315002) hb); have n3_ := Aside0.mk (blk_below (g := gb301) tB hb); have n4_ := Aside0.mk (blk_below (g := gb314) tB hb); have n5_ := Aside0.mk (below_step tH hb); clear HO_315000; clear HO_315001; clear HO_315002; clear BK301; clear BK314; clear HB; have HO_315000 := n0_; have HO_315001 := n1_; have HO_315002 := n2_; have BK301 := n3_; have BK314 := n4_; have HB := n5_; clear n0_ n1_ n2_ n3_ n4_ n5_; (try clear hb); (try clear hb2); (try clear hk); (try clear hi)))
            go_ret
            exact ⟨by first | rfl | (simp [errW_none, errW_some] <;> rfl) | (simp only [← hji25, ← hji28]; first | rfl | (simp [errW_none, errW_some] <;> rfl)) | (simp [*, errW_none, errW_some] <;> rfl), tH⟩
           ·replace c58 := Bool.eq_false_iff.mpr c58
            subst c58
            have H1 : ((some (([] : List Int) : List Int)).bind fun y320 => (if y320.length + l0_1.length < 17592186044416 then ((some (y320 ++ l0_1 : List Int)).bind fun y323 => (if 0 ≤ ji25 then (if ji25 < (y323.length : Int) then (if 0 ≤ (wrap64 (ji25 + 1)) then (if (wrap64 (ji25 + 1)) < (y323.length : Int) then ((eyewitnesslaw22_awake.f kj30).bind fun t328 => (if t328 = true then ((run_Legal.f t304 t307 t310 l0_1 l0_2).bind fun t329 => ((run_Legal.f t304 t307 t310 ((y323.set (ji25 : Int).toNat (rd l0_1 (ji28))).set ((wrap64 (ji25 + 1)) : Int).toNat (rd l0_1 (ji25))) l0_2).bind fun t330 => (some (t329 == t330)))) else (some false))) else (none)) else (none)) else (none)) else (none))) else (none))) = some r := by rw [if_neg (show ¬ (false = true) by decide)] at H; exact H
            clear H
            have H := H1
            clear H1
            obtain ⟨y320, hy320⟩ : ∃ y_ : List Int, y_ = (([] : List Int)) := ⟨_, rfl⟩
            replace H : (if y320.length + l0_1.length < 17592186044416 then ((some (y320 ++ l0_1 : List Int)).bind fun y323 => (if 0 ≤ ji25 then (if ji25 < (y323.length : Int) then (if 0 ≤ (wrap64 (ji25 + 1)) then (if (wrap64 (ji25 + 1)) < (y323.length : Int) then ((eyewitnesslaw22_awake.f kj30).bind fun t328 => (if t328 = true then ((run_Legal.f t304 t307 t310 l0_1 l0_2).bind fun t329 => ((run_Legal.f t304 t307 t310 ((y323.set (ji25 : Int).toNat (rd l0_1 (ji28))).set ((wrap64 (ji25 + 1)) : Int).toNat (rd l0_1 (ji25))) l0_2).bind fun t330 => (some (t329 == t330)))) else (some false))) else (none)) else (none)) else (none)) else (none))) else (none)) = some r := by first | (rw [hy320]; with_reducible exact H) | (have H2_ := (Option.bind_some _ _).symm.trans H; rw [hy320]; with_reducible exact H2_) | (have H2_ := (Option.bind_some _ _).symm.trans H; with_reducible exact H2_) | with_reducible exact H | (rw [hy320]; exact H) | exact H
            have Ny320 := Aside0.mk hy320
            clear hy320
            by_cases c61 : y320.length + l0_1.length < 17592186044416
            ·rw [if_pos c61] at H
             have LMc61 := Aside0.mk c61
             clear c61
             obtain ⟨y323, hy323⟩ : ∃ y_ : List Int, y_ = (y320 ++ l0_1) := ⟨_, rfl⟩
             replace H : (if 0 ≤ ji25 then (if ji25 < (y323.length : Int) then (if 0 ≤ (wrap64 (ji25 + 1)) then (if (wrap64 (ji25 + 1)) < (y323.length : Int) then ((eyewitnesslaw22_awake.f kj30).bind fun t328 => (if t328 = true then ((run_Legal.f t304 t307 t310 l0_1 l0_2).bind fun t329 => ((run_Legal.f t304 t307 t310 ((y323.set (ji25 : Int).toNat (rd l0_1 (ji28))).set ((wrap64 (ji25 + 1)) : Int).toNat (rd l0_1 (ji25))) l0_2).bind fun t330 => (some (t329 == t330)))) else (some false))) else (none)) else (none)) else (none)) else (none)) = some r := by first | (rw [hy323]; with_reducible exact H) | (have H2_ := (Option.bind_some _ _).symm.trans H; rw [hy323]; with_reducible exact H2_) | (have H2_ := (Option.bind_some _ _).symm.trans H; with_reducible exact H2_) | with_reducible exact H | (rw [hy323]; exact H) | exact H
             have Ny323 := Aside0.mk hy323
             clear hy323
             by_cases c62 : 0 ≤ ji25
             ·rw [if_pos c62] at H
              have c62b0 : decide (0 ≤ ji25) = true := decide_eq_true c62
              clear c62
              by_cases c63 : ji25 < (y323.length : Int)
              ·rw [if_pos c63] at H
               have c63b0 : decide (ji25 < (y323.length : Int)) = true := decide_eq_true c63
               clear c63
               obtain ⟨y326, hy326⟩ : ∃ y_ : List Int, y_ = (y323.set (ji25 : Int).toNat (rd l0_1 (ji28))) := ⟨_, rfl⟩
               replace H : (if 0 ≤ (wrap64 (ji25 + 1)) then (if (wrap64 (ji25 + 1)) < (y323.length : Int) then ((eyewitnesslaw22_awake.f kj30).bind fun t328 => (if t328 = true then ((run_Legal.f t304 t307 t310 l0_1 l0_2).bind fun t329 => ((run_Legal.f t304 t307 t310 (y326.set ((wrap64 (ji25 + 1)) : Int).toNat (rd l0_1 (ji25))) l0_2).bind fun t330 => (some (t329 == t330)))) else (some false))) else (none)) else (none)) = some r := by first | (rw [hy326]; with_reducible exact H) | (have H2_ := (Option.bind_some _ _).symm.trans H; rw [hy326]; with_reducible exact H2_) | (have H2_ := (Option.bind_some _ _).symm.trans H; with_reducible exact H2_) | with_reducible exact H | (rw [hy326]; exact H) | exact H
               have Ny326 := Aside0.mk hy326
               clear hy326
               replace H : (if 0 ≤ (ji28) then (if (ji28) < (y323.length : Int) then ((eyewitnesslaw22_awake.f kj30).bind fun t328 => (if t328 = true then ((run_Legal.f t304 t307 t310 l0_1 l0_2).bind fun t329 => ((run_Legal.f t304 t307 t310 (y326.set ((ji28) : Int).toNat (rd l0_1 (ji25))) l0_2).bind fun t330 => (some (t329 == t330)))) else (some false))) else (none)) else (none)) = some r := by first | (rw [hji28] at H; exact H) | (simp only [hji28] at H ⊢; exact H)
               by_cases c66 : 0 ≤ (ji28)
               ·rw [if_pos c66] at H
                have c66b0 : decide (0 ≤ (ji28)) = true := decide_eq_true c66
                clear c66
                by_cases c67 : (ji28) < (y323.length : Int)
                ·rw [if_pos c67] at H
                 have c67b0 : decide ((ji28) < (y323.length : Int)) = true := decide_eq_true c67
                 clear c67
                 obtain ⟨y327, hy327⟩ : ∃ y_ : List Int, y_ = (y326.set ((ji28) : Int).toNat (rd l0_1 (ji25))) := ⟨_, rfl⟩
                 replace H : ((eyewitnesslaw22_awake.f kj30).bind fun t328 => (if t328 = true then ((run_Legal.f t304 t307 t310 l0_1 l0_2).bind fun t329 => ((run_Legal.f t304 t307 t310 y327 l0_2).bind fun t330 => (some (t329 == t330)))) else (some false))) = some r := by first | (rw [hy327]; with_reducible exact H) | (have H2_ := (Option.bind_some _ _).symm.trans H; rw [hy327]; with_reducible exact H2_) | (have H2_ := (Option.bind_some _ _).symm.trans H; with_reducible exact H2_) | with_reducible exact H | (rw [hy327]; exact H) | exact H
                 have Ny327 := Aside0.mk hy327
                 clear hy327
                 replace H := Option.bind_eq_some_iff.mp H
                 obtain ⟨t328, A690, H⟩ := H
                 replace H : (if t328 = true then ((run_Legal.f t304 t307 t310 l0_1 l0_2).bind fun t329 => ((run_Legal.f t304 t307 t310 y327 l0_2).bind fun t330 => (some (t329 == t330)))) else (some false)) = some r := H
                 have A69 := Aside0.mk A690
                 clear A690
                 by_cases c70 : t328 = true
                 ·subst c70
                  have H1 : ((run_Legal.f t304 t307 t310 l0_1 l0_2).bind fun t329 => ((run_Legal.f t304 t307 t310 y327 l0_2).bind fun t330 => (some (t329 == t330)))) = some r := by rw [if_pos rfl] at H; exact H
                  clear H
                  have H := H1
                  clear H1
                  replace H := Option.bind_eq_some_iff.mp H
                  obtain ⟨t329, A710, H⟩ := H
                  replace H : ((run_Legal.f t304 t307 t310 y327 l0_2).bind fun t330 => (some (t329 == t330))) = some r := H
                  have A71 := Aside0.mk A710
                  clear A710
                  replace H := Option.bind_eq_some_iff.mp H
                  obtain ⟨t330, A720, H⟩ := H
                  replace H : (some (t329 == t330)) = some r := H
                  have A72 := Aside0.mk A720
                  clear A720
                  obtain rfl := Option.some.inj H
                  try go_wp2_with (first | ((with_reducible refine gate_dst (N := 98) rfl ?_); (try (refine gate_guard (by rfl) ?_; dsimp only)); refine Kd.R_lit (Kd.int .i64) _ 3 ?hg (N := 98) ?hd (xs := ([] : List Int)) (inner := []) (ok := fun _ => True) (okp := fun _ => True) ?hr ?hp (fun _ hk => hk) trivial (Below.refl _ _) (Nat.le_refl _) (by simp) ?_; (case hd => rfl); (case hg => rfl); (case hr => first | (go_simp; done) | (go_simp; rfl)); (case hp => exact (Reps.none _ _)); intro v321 w73 ho74 hb hg_ hnew_; clear hg_ hnew_; (first | rw [← Ny320.out] at ho74 | (simp only [Int.reduceToNat] at ho74; rw [← Ny320.out] at ho74)); have n0_ := Aside0.mk (Kd.R_below (tRr HO_315000) hb); have n1_ := Aside0.mk (Kd.R_below (tRr HO_315001) hb); have n2_ := Aside0.mk (Kd.R_elder' (tRr HO_315002) (Kd.R_base ho74) hb); have n3_ := Aside0.mk (Kd.R_lower (Kd.R_new' ho74 (Kd.R_lt (tRr HO_315002))) (below_size tH)); have n4_ := Aside0.mk (blk_below (g := gb301) tB hb); have n5_ := Aside0.mk (blk_below (g := gb314) tB hb); have n6_ := Aside0.mk (below_step tH hb); clear HO_315000; clear HO_315001; clear HO_315002; clear BK301; clear BK314; clear HB; have HO_315000 := n0_; have HO_315001 := n1_; have HO_315002 := n2_; have HO322 := n3_; have BK301 := n4_; have BK314 := n5_; have HB := n6_; clear n0_ n1_ n2_ n3_ n4_ n5_ n6_; clear hb ho74; have hnb75 := NB301_314.out; have hnc75 := NB314_301.out; have hcz76_0 : w73.cell? ⟨gb301, 0, none⟩ = some (.slice A0_0 l0_0.length c0_0) := (blk_cell BK301.out 0).trans rfl; have hcz76_1 : w73.cell? ⟨gb301, 1, none⟩ = some (.slice (some ad315) l0_1.length c0_1) := (blk_cell BK301.out 1).trans rfl; have hcz76_2 : w73.cell? ⟨gb301, 2, none⟩ = some (.slice A0_2 l0_2.length c0_2) := (blk_cell BK301.out 2).trans rfl; have hfz76_0 := blk_frozen BK301.out 0; have hfz76_1 := blk_frozen BK301.out 1; have hfz76_2 := blk_frozen BK301.out 2) | ((with_reducible refine gate_builtin (b := .append) (xs := #[.tmp 98, .tmp 100]) rfl ?_); (try (refine gate_guard (by rfl) ?_; dsimp only)); at_builtin; refine Kd.R_append_rows (Kd.int .i64) (w0 := w) w.heap.size rfl (.tmp 98) (.tmp 100) 23 3 (.int .i64 0) 8 rfl Try.underlying23 info3 rfl (by decide) (by omega) v321 y320 l0_1 _ _ _ (fun k_ => some k_ ≠ (.slice Ao39 t310.length co39 : Value).ownBlock) (fun _ => False) rfl rfl ?aO ?aR (fun _ _ h => h) (fun _ h => h.elim) ?aF ?aB ?aS ?aL ?_; (case aR => repeat (first | exact (Kd.C_below HR0_1.out HB.out) | (with_reducible refine Kd.C_alloc ?_ _) | (with_reducible refine Kd.C_drewN ?_ _) | (with_reducible refine Kd.C_drew ?_))); (case aB => exact tH); (case aF => exact (fun k_ hk => Kd.fresh' (Kd.R_lt (tRr HO_315002)) k_ hk)); (case aO => exact (by (with_reducible repeat (first | apply Kd.R_alloc | apply Kd.R_drewN | apply Kd.R_drew)); exact Kd.R_mono HO322.out (fun _ hk => hk.2))); (case aS => exact (below_size tH)); (case aL => have := LMc61.out; omega); intro v324 w77 ho hb hg hat; rw [← Ny323.out] at ho; have n0_ := Aside0.mk (Kd.R_over' (tRr HO_315000) (Kd.R_typed (tRr HO322)) (by decide) hg); have n1_ := Aside0.mk (Kd.R_over' (tRr HO_315001) (Kd.R_typed (tRr HO322)) (by decide) hg); have n2_ := Aside0.mk (Kd.R_after (ok := (fun _ => True)) (tRr HO_315002) hg hat); have n3_ := Aside0.mk (blk_grown (g := gb301) tB hg (Kd.R_ne HO322.out BK301.out (by decide))); have n4_ := Aside0.mk (blk_grown (g := gb314) tB hg (Kd.R_ne HO322.out BK314.out (by decide))); have n5_ := Aside0.mk (hb); have n6_ := Aside0.mk (ho); clear HO_315000; clear HO_315001; clear HO_315002; clear BK301; clear BK314; clear HB; clear HO322; have HO_315000 := n0_; have HO_315001 := n1_; have HO_315002 := n2_; have BK301 := n3_; have BK314 := n4_; have HB := n5_; have HO325 := n6_; clear n0_ n1_ n2_ n3_ n4_ n5_ n6_; clear ho hb hg hat; have p64 : 0 ≤ (ji25 : Int) := of_decide_eq_true aS; have q64 : (ji25 : Int) < ((y323.length : Int) : Int) := of_decide_eq_true aS; obtain ⟨go64, co64, eo64, gb64, gl64, cl64, HG64⟩ := Kd.R_form HO325.out (by omega); (first | cases eo64 | (injection eo64 with ea_ en_ ec_; (first | subst ea_ | (injection ea_ with ea_; subst ea_)); subst ec_; clear en_)); have GB64 := Aside0.mk gb64; have GG64 := Aside0.mk HG64; clear gb64 gl64 HG64; obtain ⟨hx64_0, hf64_0⟩ := Kd.R_celln 0 HO325.out (ji25 : Int) p64 q64; replace p64 := eq_true p64; replace q64 := eq_true q64; obtain ⟨hy78_, hz78_⟩ := Kd.R_celln 0 HO325.out (ji25 : Int) (of_decide_eq_true aS) (of_decide_eq_true aS); have HP78 := Kd.R_putg HO325.out (ji25 : Int) (rd l0_1 (ji28))) | ((with_reducible refine gate_store (t := 3) (p := 109) rfl ?_); refine store_event (t := 3) (p := 109) (v := ?vo_w79) (w1 := (w77.setCell ⟨go64, (ji25 : Int).toNat, none⟩ (.int .i64 (rd l0_1 (ji28))))) ?hg ?ho ?hn ?hr ?_; (case ho => rfl); (case hg => rfl); (case hn => rfl); (case hr => first | (go_simp; done) | (go_simp; rfl)); intro w79 hw; have hg : w77.grownBy w79 (some go64) := (by rw [hw]; exact HP78.2); have hp_ : Kd.R (Kd.int .i64) 3 w79 w.heap.size (fun k_ => some k_ ≠ (.slice Ao39 t310.length co39 : Value).ownBlock) (.slice (some ⟨go64, 0, none⟩) y323.length co64) y326 := (by rw [hw, Ny326.out]; exact HP78.1); clear HP78; have n0_ := Aside0.mk (Kd.R_over' (v := (.slice (some ⟨go64, 0, none⟩) y323.length co64)) (tRr HO_315000) (Kd.R_typed HO325.out) (by decide) hg); have n1_ := Aside0.mk (Kd.R_over' (v := (.slice (some ⟨go64, 0, none⟩) y323.length co64)) (tRr HO_315001) (Kd.R_typed HO325.out) (by decide) hg); have n2_ := Aside0.mk (Kd.R_after (v := (.slice (some ⟨go64, 0, none⟩) y323.length co64)) (v1 := (.slice (some ⟨go64, 0, none⟩) y323.length co64)) (ok := (fun _ => True)) (tRr HO_315002) hg (.inl rfl)); have n3_ := Aside0.mk (blk_grown (g := gb301) tB hg (Kd.R_ne HO325.out BK301.out (by decide))); have n4_ := Aside0.mk (blk_grown (g := gb314) tB hg (Kd.R_ne HO325.out BK314.out (by decide))); have n5_ := Aside0.mk (hp_); have n6_ := Aside0.mk ((by rw [hw]; exact below_set (HB.out) GB64.out : Below w.heap.size w w79)); clear HO_315000; clear HO_315001; clear HO_315002; clear BK301; clear BK314; clear HO325; clear HB; have HO_315000 := n0_; have HO_315001 := n1_; have HO_315002 := n2_; have BK301 := n3_; have BK314 := n4_; have HO325 := n5_; have HB := n6_; clear n0_ n1_ n2_ n3_ n4_ n5_ n6_; clear hg hw hp_; have p68 : 0 ≤ ((ji28) : Int) := of_decide_eq_true aS; have q68 : ((ji28) : Int) < ((y323.length : Int) : Int) := of_decide_eq_true aS; obtain ⟨hx68_0, hf68_0⟩ := Kd.R_celln 0 HO325.out ((ji28) : Int) p68 q68; replace p68 := eq_true p68; replace q68 := eq_true q68; obtain ⟨hy80_, hz80_⟩ := Kd.R_celln 0 HO325.out ((ji28) : Int) (of_decide_eq_true aS) (of_decide_eq_true aS); have HP80 := Kd.R_putg HO325.out ((ji28) : Int) (rd l0_1 (ji25))) | ((with_reducible refine gate_store (t := 3) (p := 110) rfl ?_); refine store_event (t := 3) (p := 110) (v := ?vo_w81) (w1 := (w79.setCell ⟨go64, ((ji28) : Int).toNat, none⟩ (.int .i64 (rd l0_1 (ji25))))) ?hg ?ho ?hn ?hr ?_; (case ho => rfl); (case hg => rfl); (case hn => rfl); (case hr => first | (go_simp; done) | (go_simp; rfl)); intro w81 hw; have hg : w79.grownBy w81 (some go64) := (by rw [hw]; exact HP80.2); have hp_ : Kd.R (Kd.int .i64) 3 w81 w.heap.size (fun k_ => some k_ ≠ (.slice Ao39 t310.length co39 : Value).ownBlock) (.slice (some ⟨go64, 0, none⟩) y323.length co64) y327 := (by rw [hw, Ny327.out]; exact HP80.1); clear HP80; have n0_ := Aside0.mk (Kd.R_over' (v := (.slice (some ⟨go64, 0, none⟩) y323.length co64)) (tRr HO_315000) (Kd.R_typed HO325.out) (by decide) hg); have n1_ := Aside0.mk (Kd.R_over' (v := (.slice (some ⟨go64, 0, none⟩) y323.length co64)) (tRr HO_315001) (Kd.R_typed HO325.out) (by decide) hg); have n2_ := Aside0.mk (Kd.R_after (v := (.slice (some ⟨go64, 0, none⟩) y323.length co64)) (v1 := (.slice (some ⟨go64, 0, none⟩) y323.length co64)) (ok := (fun _ => True)) (tRr HO_315002) hg (.inl rfl)); have n3_ := Aside0.mk (blk_grown (g := gb301) tB hg (Kd.R_ne HO325.out BK301.out (by decide))); have n4_ := Aside0.mk (blk_grown (g := gb314) tB hg (Kd.R_ne HO325.out BK314.out (by decide))); have n5_ := Aside0.mk (hp_); have n6_ := Aside0.mk ((by rw [hw]; exact below_set (HB.out) GB64.out : Below w.heap.size w w81)); clear HO_315000; clear HO_315001; clear HO_315002; clear BK301; clear BK314; clear HO325; clear HB; have HO_315000 := n0_; have HO_315001 := n1_; have HO_315002 := n2_; have BK301 := n3_; have BK314 := n4_; have HO325 := n5_; have HB := n6_; clear n0_ n1_ n2_ n3_ n4_ n5_ n6_; clear hg hw hp_))
                  have n0_ := Aside0.mk (Kd.R_drew HO_315000.out)
                  have n1_ := Aside0.mk (Kd.R_drew HO_315001.out)
                  have n2_ := Aside0.mk (Kd.R_drew HO_315002.out)
                  have n3_ := Aside0.mk (Kd.R_drew HO325.out)
                  have n4_ := Aside0.mk (blk_drew BK301.out)
                  have n5_ := Aside0.mk (blk_drew BK314.out)
                  have n6_ := Aside0.mk (below_drew1 HB.out)
                  clear HO_315000
                  clear HO_315001
                  clear HO_315002
                  clear HO325
                  clear BK301
                  clear BK314
                  clear HB
                  have HO_315000 := n0_
                  have HO_315001 := n1_
                  have HO_315002 := n2_
                  have HO325 := n3_
                  have BK301 := n4_
                  have BK314 := n5_
                  have HB := n6_
                  clear n0_ n1_ n2_ n3_ n4_ n5_ n6_
                  refine start_ (n := 16) (S := fun w' => w'.cell? ⟨gb314, 0, none⟩ = some (.slice Ao35 t304.length co35) ∧ w'.cell? ⟨gb314, 1, none⟩ = some (.slice Ao38 t307.length co38) ∧ w'.cell? ⟨gb314, 2, none⟩ = some (.slice Ao39 t310.length co39) ∧ w'.cell? ⟨gb301, 0, none⟩ = some (.slice A0_0 l0_0.length c0_0) ∧ w'.cell? ⟨gb301, 1, none⟩ = some (.slice (some ad315) l0_1.length c0_1) ∧ w'.cell? ⟨gb301, 2, none⟩ = some (.slice A0_2 l0_2.length c0_2)) (ds := []) (bl 16 0) (by kernel_rfl) rfl rfl ⟨(blk_cell BK314.out 0).trans rfl, (blk_cell BK314.out 1).trans rfl, (blk_cell BK314.out 2).trans rfl, (blk_cell BK301.out 0).trans rfl, (blk_cell BK301.out 1).trans rfl, (blk_cell BK301.out 2).trans rfl⟩ (fun hHeld => ?_); refine with_tabW eyewitnesslaw22_RunSwaps.tab10 eyewitnesslaw22_RunSwaps.bits10 (fun HT_ HW_ => ?_)
                  generalize w81.drew = w82 at HO_315000 HO_315001 HO_315002 HO325 BK301 BK314 HB hHeld ⊢
                  refine one_ (i := 0) (N := some 111) (bl 16 1) rfl rfl (one_of HT_.out (by kernel_rfl)) (by decide) (fun K hK => ?_)
                  refine goes_ Try.func7 (by kernel_rfl) rfl #[] (by rfl) rfl rfl (by (try simp only [List.map_toArray, List.map_cons, List.map_nil]); first | done | rfl | (simp only [List.length_drop, List.length_take]; rfl)) ?_
                  with_reducible refine (eyewitnesslaw22_awake.calls kj30  true _ A69.out).mono ?_
                  rintro e w83 ⟨rfl, hb⟩
                  refine ⟨_, rfl, ?_⟩
                  have n0_ := Aside0.mk (Kd.R_below (tRr HO_315000) hb)
                  have n1_ := Aside0.mk (Kd.R_below (tRr HO_315001) hb)
                  have n2_ := Aside0.mk (Kd.R_below (tRr HO_315002) hb)
                  have n3_ := Aside0.mk (Kd.R_below (tRr HO325) hb)
                  have n4_ := Aside0.mk (blk_below (g := gb301) tB hb)
                  have n5_ := Aside0.mk (blk_below (g := gb314) tB hb)
                  have n6_ := Aside0.mk (below_step tH hb)
                  clear HO_315000
                  clear HO_315001
                  clear HO_315002
                  clear HO325
                  clear BK301
                  clear BK314
                  clear HB
                  have HO_315000 := n0_
                  have HO_315001 := n1_
                  have HO_315002 := n2_
                  have HO325 := n3_
                  have BK301 := n4_
                  have BK314 := n5_
                  have HB := n6_
                  clear n0_ n1_ n2_ n3_ n4_ n5_ n6_
                  (try clear hb)
                  (try clear hb2)
                  (try clear hk)
                  (try clear hi)
                  refine hK.out _ _ ⟨(blk_cell BK314.out 0).trans rfl, (blk_cell BK314.out 1).trans rfl, (blk_cell BK314.out 2).trans rfl, (blk_cell BK301.out 0).trans rfl, (blk_cell BK301.out 1).trans rfl, (blk_cell BK301.out 2).trans rfl⟩ (fun hHeld => ?_)
                  clear hK K
                  refine norm_ (a' := ?_) ?_ ?_
                  rotate_left
                  ·show Act.put _ (some 111) _ = _
                   simp only [Act.put, List.setIfInBounds_toArray, List.set_cons_zero, List.set_cons_succ, i64_w, i32_w]
                   rfl
                  refine pX 1 112 (bl 16 3) HT_ rfl rfl kA (fun _ _ _ h => h) yA hA ?_
                  refine pX 3 114 (bl 16 11) HT_ rfl rfl kA (fun _ _ _ h => h) yA hA ?_
                  refine pX 5 116 (bl 16 43) HT_ rfl rfl kA (fun _ _ _ h => h) yA hA ?_
                  refine pX 9 120 (bl 16 555) HT_ rfl rfl kA (fun _ _ _ h => h) yA hA ?_
                  refine pX 10 121 (bl 16 1579) HT_ rfl rfl kA (fun _ _ _ h => h) yA hA ?_
                  refine pT 2 113 (bl 16 1583) HT_ HW_ rfl rfl kA (fun _ _ _ h => h) yS hHeld hA ?_
                  refine pT 4 115 (bl 16 1599) HT_ HW_ rfl rfl kA (fun _ _ _ h => h) yS hHeld hA ?_
                  refine pT 6 117 (bl 16 1663) HT_ HW_ rfl rfl kA (fun _ _ _ h => h) yS hHeld hA ?_
                  refine pT 8 119 (bl 16 1919) HT_ HW_ rfl rfl kA (fun _ _ _ h => h) yS hHeld hA ?_
                  refine pT 11 122 (bl 16 3967) HT_ HW_ rfl rfl kA (fun _ _ _ h => h) yS hHeld hA ?_
                  refine one_ (i := 7) (N := some 118) (bl 16 4095) rfl rfl (one_of HT_.out (by kernel_rfl)) (by decide) (fun K hK => ?_)
                  refine goes_ Try.func11 (by kernel_rfl) rfl #[.agg #[.slice Ao35 t304.length co35, .slice Ao38 t307.length co38, .slice Ao39 t310.length co39], .slice (some ad315) l0_1.length c0_1, .slice A0_2 l0_2.length c0_2] (by rfl) rfl rfl (by (try simp only [List.map_toArray, List.map_cons, List.map_nil]); first | done | rfl | (simp only [List.length_drop, List.length_take]; rfl)) ?_
                  with_reducible refine (run_Legal.calls _ _ t304 _ _ t307 _ _ t310 _ _ l0_1 _ _ l0_2 t329 _ ?side1 ?side2 ?side3 ?side4 ?side5 ?side6 ?side7 ?side8 ?side9 ?side10 A71.out).mono ?_
                  (case side1 => exact tD (Kd.R_reads' HO_315000.out).2.2)
                  (case side2 => exact (Kd.R_reads' HO_315000.out).2.1)
                  (case side3 => exact tD (Kd.R_reads' HO_315001.out).2.2)
                  (case side4 => exact (Kd.R_reads' HO_315001.out).2.1)
                  (case side5 => exact tD (Kd.R_reads' HO_315002.out).2.2)
                  (case side6 => exact (Kd.R_reads' HO_315002.out).2.1)
                  (case side7 => exact tC HR0_1)
                  (case side8 => exact HC0_1.out)
                  (case side9 => exact tC HR0_2)
                  (case side10 => exact HC0_2.out)
                  rintro e w84 ⟨rfl, hb⟩
                  refine ⟨_, rfl, ?_⟩
                  have n0_ := Aside0.mk (Kd.R_below (tRr HO_315000) hb)
                  have n1_ := Aside0.mk (Kd.R_below (tRr HO_315001) hb)
                  have n2_ := Aside0.mk (Kd.R_below (tRr HO_315002) hb)
                  have n3_ := Aside0.mk (Kd.R_below (tRr HO325) hb)
                  have n4_ := Aside0.mk (blk_below (g := gb301) tB hb)
                  have n5_ := Aside0.mk (blk_below (g := gb314) tB hb)
                  have n6_ := Aside0.mk (below_step tH hb)
                  clear HO_315000
                  clear HO_315001
                  clear HO_315002
                  clear HO325
                  clear BK301
                  clear BK314
                  clear HB
                  have HO_315000 := n0_
                  have HO_315001 := n1_
                  have HO_315002 := n2_
                  have HO325 := n3_
                  have BK301 := n4_
                  have BK314 := n5_
                  have HB := n6_
                  clear n0_ n1_ n2_ n3_ n4_ n5_ n6_
                  (try clear hb)
                  (try clear hb2)
                  (try clear hk)
                  (try clear hi)
                  refine hK.out _ _ ⟨(blk_cell BK314.out 0).trans rfl, (blk_cell BK314.out 1).trans rfl, (blk_cell BK314.out 2).trans rfl, (blk_cell BK301.out 0).trans rfl, (blk_cell BK301.out 1).trans rfl, (blk_cell BK301.out 2).trans rfl⟩ (fun hHeld => ?_)
                  clear hK K
                  refine norm_ (a' := ?_) ?_ ?_
                  rotate_left
                  ·show Act.put _ (some 118) _ = _
                   simp only [Act.put, List.setIfInBounds_toArray, List.set_cons_zero, List.set_cons_succ, i64_w, i32_w]
                   rfl
                  refine one_ (i := 12) (N := some 123) (bl 16 8191) rfl rfl (one_of HT_.out (by kernel_rfl)) (by decide) (fun K hK => ?_)
                  refine goes_ Try.func11 (by kernel_rfl) rfl #[.agg #[.slice Ao35 t304.length co35, .slice Ao38 t307.length co38, .slice Ao39 t310.length co39], .slice (some ⟨go64, 0, none⟩) y327.length co64, .slice A0_2 l0_2.length c0_2] (by rfl) rfl rfl (by (try simp only [List.map_toArray, List.map_cons, List.map_nil]); first | done | (rw [show y327.length = y323.length from (Kd.R_reads' HO325.out).1.symm] <;> rfl) | rfl | (simp only [List.length_drop, List.length_take]; rfl)) ?_
                  with_reducible refine (run_Legal.calls _ _ t304 _ _ t307 _ _ t310 _ _ y327 _ _ l0_2 t330 _ ?side1 ?side2 ?side3 ?side4 ?side5 ?side6 ?side7 ?side8 ?side9 ?side10 A72.out).mono ?_
                  (case side1 => exact tD (Kd.R_reads' HO_315000.out).2.2)
                  (case side2 => exact (Kd.R_reads' HO_315000.out).2.1)
                  (case side3 => exact tD (Kd.R_reads' HO_315001.out).2.2)
                  (case side4 => exact (Kd.R_reads' HO_315001.out).2.1)
                  (case side5 => exact tD (Kd.R_reads' HO_315002.out).2.2)
                  (case side6 => exact (Kd.R_reads' HO_315002.out).2.1)
                  (case side7 => exact tD (Kd.R_reads' HO325.out).2.2)
                  (case side8 => rw [show y327.length = y323.length from (Kd.R_reads' HO325.out).1.symm]; exact (Kd.R_reads' HO325.out).2.1)
                  (case side9 => exact tC HR0_2)
                  (case side10 => exact HC0_2.out)
                  rintro e w85 ⟨rfl, hb⟩
                  refine ⟨_, rfl, ?_⟩
                  have n0_ := Aside0.mk (Kd.R_below (tRr HO_315000) hb)
                  have n1_ := Aside0.mk (Kd.R_below (tRr HO_315001) hb)
                  have n2_ := Aside0.mk (Kd.R_below (tRr HO_315002) hb)
                  have n3_ := Aside0.mk (Kd.R_below (tRr HO325) hb)
                  have n4_ := Aside0.mk (blk_below (g := gb301) tB hb)
                  have n5_ := Aside0.mk (blk_below (g := gb314) tB hb)
                  have n6_ := Aside0.mk (below_step tH hb)
                  clear HO_315000
                  clear HO_315001
                  clear HO_315002
                  clear HO325
                  clear BK301
                  clear BK314
                  clear HB
                  have HO_315000 := n0_
                  have HO_315001 := n1_
                  have HO_315002 := n2_
                  have HO325 := n3_
                  have BK301 := n4_
                  have BK314 := n5_
                  have HB := n6_
                  clear n0_ n1_ n2_ n3_ n4_ n5_ n6_
                  (try clear hb)
                  (try clear hb2)
                  (try clear hk)
                  (try clear hi)
                  refine hK.out _ _ ⟨(blk_cell BK314.out 0).trans rfl, (blk_cell BK314.out 1).trans rfl, (blk_cell BK314.out 2).trans rfl, (blk_cell BK301.out 0).trans rfl, (blk_cell BK301.out 1).trans rfl, (blk_cell BK301.out 2).trans rfl⟩ (fun hHeld => ?_)
                  clear hK K
                  refine norm_ (a' := ?_) ?_ ?_
                  rotate_left
                  ·show Act.put _ (some 123) _ = _
                   simp only [Act.put, List.setIfInBounds_toArray, List.set_cons_zero, List.set_cons_succ, i64_w, i32_w]
                   rfl
                  refine pX 13 124 (bl 16 16383) HT_ rfl rfl kA (fun _ _ _ h => h) yA hA ?_
                  refine pX 14 125 (bl 16 32767) HT_ rfl rfl kA (fun _ _ _ h => h) yA hA ?_
                  refine pX 15 4 (bl 16 65535) HT_ rfl rfl kA (fun _ _ _ h => h) yA hA ?_
                  refine done_ (done_of HT_.out (by kernel_rfl)) ?_
                  try go_wp2
                  go_ret
                  exact ⟨by first | rfl | (simp [errW_none, errW_some] <;> rfl) | (simp only [← hji25, ← hji28, ← hji28]; first | rfl | (simp [errW_none, errW_some] <;> rfl)) | (simp [*, errW_none, errW_some] <;> rfl), tH⟩
                 ·replace c70 := Bool.eq_false_iff.mpr c70
                  subst c70
                  have H1 : (some false) = some r := by rw [if_neg (show ¬ (false = true) by decide)] at H; exact H
                  clear H
                  have H := H1
                  clear H1
                  obtain rfl := Option.some.inj H
                  try go_wp2_with (first | ((with_reducible refine gate_dst (N := 98) rfl ?_); (try (refine gate_guard (by rfl) ?_; dsimp only)); refine Kd.R_lit (Kd.int .i64) _ 3 ?hg (N := 98) ?hd (xs := ([] : List Int)) (inner := []) (ok := fun _ => True) (okp := fun _ => True) ?hr ?hp (fun _ hk => hk) trivial (Below.refl _ _) (Nat.le_refl _) (by simp) ?_; (case hd => rfl); (case hg => rfl); (case hr => first | (go_simp; done) | (go_simp; rfl)); (case hp => exact (Reps.none _ _)); intro v321 w86 ho87 hb hg_ hnew_; clear hg_ hnew_; (first | rw [← Ny320.out] at ho87 | (simp only [Int.reduceToNat] at ho87; rw [← Ny320.out] at ho87)); have n0_ := Aside0.mk (Kd.R_below (tRr HO_315000) hb); have n1_ := Aside0.mk (Kd.R_below (tRr HO_315001) hb); have n2_ := Aside0.mk (Kd.R_elder' (tRr HO_315002) (Kd.R_base ho87) hb); have n3_ := Aside0.mk (Kd.R_lower (Kd.R_new' ho87 (Kd.R_lt (tRr HO_315002))) (below_size tH)); have n4_ := Aside0.mk (blk_below (g := gb301) tB hb); have n5_ := Aside0.mk (blk_below (g := gb314) tB hb); have n6_ := Aside0.mk (below_step tH hb); clear HO_315000; clear HO_315001; clear HO_315002; clear BK301; clear BK314; clear HB; have HO_315000 := n0_; have HO_315001 := n1_; have HO_315002 := n2_; have HO322 := n3_; have BK301 := n4_; have BK314 := n5_; have HB := n6_; clear n0_ n1_ n2_ n3_ n4_ n5_ n6_; clear hb ho87; have hnb88 := NB301_314.out; have hnc88 := NB314_301.out; have hcz89_0 : w86.cell? ⟨gb301, 0, none⟩ = some (.slice A0_0 l0_0.length c0_0) := (blk_cell BK301.out 0).trans rfl; have hcz89_1 : w86.cell? ⟨gb301, 1, none⟩ = some (.slice (some ad315) l0_1.length c0_1) := (blk_cell BK301.out 1).trans rfl; have hcz89_2 : w86.cell? ⟨gb301, 2, none⟩ = some (.slice A0_2 l0_2.length c0_2) := (blk_cell BK301.out 2).trans rfl; have hfz89_0 := blk_frozen BK301.out 0; have hfz89_1 := blk_frozen BK301.out 1; have hfz89_2 := blk_frozen BK301.out 2) | ((with_reducible refine gate_builtin (b := .append) (xs := #[.tmp 98, .tmp 100]) rfl ?_); (try (refine gate_guard (by rfl) ?_; dsimp only)); at_builtin; refine Kd.R_append_rows (Kd.int .i64) (w0 := w) w.heap.size rfl (.tmp 98) (.tmp 100) 23 3 (.int .i64 0) 8 rfl Try.underlying23 info3 rfl (by decide) (by omega) v321 y320 l0_1 _ _ _ (fun k_ => some k_ ≠ (.slice Ao39 t310.length co39 : Value).ownBlock) (fun _ => False) rfl rfl ?aO ?aR (fun _ _ h => h) (fun _ h => h.elim) ?aF ?aB ?aS ?aL ?_; (case aR => repeat (first | exact (Kd.C_below HR0_1.out HB.out) | (with_reducible refine Kd.C_alloc ?_ _) | (with_reducible refine Kd.C_drewN ?_ _) | (with_reducible refine Kd.C_drew ?_))); (case aB => exact tH); (case aF => exact (fun k_ hk => Kd.fresh' (Kd.R_lt (tRr HO_315002)) k_ hk)); (case aO => exact (by (with_reducible repeat (first | apply Kd.R_alloc | apply Kd.R_drewN | apply Kd.R_drew)); exact Kd.R_mono HO322.out (fun _ hk => hk.2))); (case aS => exact (below_size tH)); (case aL => have := LMc61.out; omega); intro v324 w90 ho hb hg hat; rw [← Ny323.out] at ho; have n0_ := Aside0.mk (Kd.R_over' (tRr HO_315000) (Kd.R_typed (tRr HO322)) (by decide) hg); have n1_ := Aside0.mk (Kd.R_over' (tRr HO_315001) (Kd.R_typed (tRr HO322)) (by decide) hg); have n2_ := Aside0.mk (Kd.R_after (ok := (fun _ => True)) (tRr HO_315002) hg hat); have n3_ := Aside0.mk (blk_grown (g := gb301) tB hg (Kd.R_ne HO322.out BK301.out (by decide))); have n4_ := Aside0.mk (blk_grown (g := gb314) tB hg (Kd.R_ne HO322.out BK314.out (by decide))); have n5_ := Aside0.mk (hb); have n6_ := Aside0.mk (ho); clear HO_315000; clear HO_315001; clear HO_315002; clear BK301; clear BK314; clear HB; clear HO322; have HO_315000 := n0_; have HO_315001 := n1_; have HO_315002 := n2_; have BK301 := n3_; have BK314 := n4_; have HB := n5_; have HO325 := n6_; clear n0_ n1_ n2_ n3_ n4_ n5_ n6_; clear ho hb hg hat; have p64 : 0 ≤ (ji25 : Int) := of_decide_eq_true aS; have q64 : (ji25 : Int) < ((y323.length : Int) : Int) := of_decide_eq_true aS; obtain ⟨go64, co64, eo64, gb64, gl64, cl64, HG64⟩ := Kd.R_form HO325.out (by omega); (first | cases eo64 | (injection eo64 with ea_ en_ ec_; (first | subst ea_ | (injection ea_ with ea_; subst ea_)); subst ec_; clear en_)); have GB64 := Aside0.mk gb64; have GG64 := Aside0.mk HG64; clear gb64 gl64 HG64; obtain ⟨hx64_0, hf64_0⟩ := Kd.R_celln 0 HO325.out (ji25 : Int) p64 q64; replace p64 := eq_true p64; replace q64 := eq_true q64; obtain ⟨hy91_, hz91_⟩ := Kd.R_celln 0 HO325.out (ji25 : Int) (of_decide_eq_true aS) (of_decide_eq_true aS); have HP91 := Kd.R_putg HO325.out (ji25 : Int) (rd l0_1 (ji28))) | ((with_reducible refine gate_store (t := 3) (p := 109) rfl ?_); refine store_event (t := 3) (p := 109) (v := ?vo_w92) (w1 := (w90.setCell ⟨go64, (ji25 : Int).toNat, none⟩ (.int .i64 (rd l0_1 (ji28))))) ?hg ?ho ?hn ?hr ?_; (case ho => rfl); (case hg => rfl); (case hn => rfl); (case hr => first | (go_simp; done) | (go_simp; rfl)); intro w92 hw; have hg : w90.grownBy w92 (some go64) := (by rw [hw]; exact HP91.2); have hp_ : Kd.R (Kd.int .i64) 3 w92 w.heap.size (fun k_ => some k_ ≠ (.slice Ao39 t310.length co39 : Value).ownBlock) (.slice (some ⟨go64, 0, none⟩) y323.length co64) y326 := (by rw [hw, Ny326.out]; exact HP91.1); clear HP91; have n0_ := Aside0.mk (Kd.R_over' (v := (.slice (some ⟨go64, 0, none⟩) y323.length co64)) (tRr HO_315000) (Kd.R_typed HO325.out) (by decide) hg); have n1_ := Aside0.mk (Kd.R_over' (v := (.slice (some ⟨go64, 0, none⟩) y323.length co64)) (tRr HO_315001) (Kd.R_typed HO325.out) (by decide) hg); have n2_ := Aside0.mk (Kd.R_after (v := (.slice (some ⟨go64, 0, none⟩) y323.length co64)) (v1 := (.slice (some ⟨go64, 0, none⟩) y323.length co64)) (ok := (fun _ => True)) (tRr HO_315002) hg (.inl rfl)); have n3_ := Aside0.mk (blk_grown (g := gb301) tB hg (Kd.R_ne HO325.out BK301.out (by decide))); have n4_ := Aside0.mk (blk_grown (g := gb314) tB hg (Kd.R_ne HO325.out BK314.out (by decide))); have n5_ := Aside0.mk (hp_); have n6_ := Aside0.mk ((by rw [hw]; exact below_set (HB.out) GB64.out : Below w.heap.size w w92)); clear HO_315000; clear HO_315001; clear HO_315002; clear BK301; clear BK314; clear HO325; clear HB; have HO_315000 := n0_; have HO_315001 := n1_; have HO_315002 := n2_; have BK301 := n3_; have BK314 := n4_; have HO325 := n5_; have HB := n6_; clear n0_ n1_ n2_ n3_ n4_ n5_ n6_; clear hg hw hp_; have p68 : 0 ≤ ((ji28) : Int) := of_decide_eq_true aS; have q68 : ((ji28) : Int) < ((y323.length : Int) : Int) := of_decide_eq_true aS; obtain ⟨hx68_0, hf68_0⟩ := Kd.R_celln 0 HO325.out ((ji28) : Int) p68 q68; replace p68 := eq_true p68; replace q68 := eq_true q68; obtain ⟨hy93_, hz93_⟩ := Kd.R_celln 0 HO325.out ((ji28) : Int) (of_decide_eq_true aS) (of_decide_eq_true aS); have HP93 := Kd.R_putg HO325.out ((ji28) : Int) (rd l0_1 (ji25))) | ((with_reducible refine gate_store (t := 3) (p := 110) rfl ?_); refine store_event (t := 3) (p := 110) (v := ?vo_w94) (w1 := (w92.setCell ⟨go64, ((ji28) : Int).toNat, none⟩ (.int .i64 (rd l0_1 (ji25))))) ?hg ?ho ?hn ?hr ?_; (case ho => rfl); (case hg => rfl); (case hn => rfl); (case hr => first | (go_simp; done) | (go_simp; rfl)); intro w94 hw; have hg : w92.grownBy w94 (some go64) := (by rw [hw]; exact HP93.2); have hp_ : Kd.R (Kd.int .i64) 3 w94 w.heap.size (fun k_ => some k_ ≠ (.slice Ao39 t310.length co39 : Value).ownBlock) (.slice (some ⟨go64, 0, none⟩) y323.length co64) y327 := (by rw [hw, Ny327.out]; exact HP93.1); clear HP93; have n0_ := Aside0.mk (Kd.R_over' (v := (.slice (some ⟨go64, 0, none⟩) y323.length co64)) (tRr HO_315000) (Kd.R_typed HO325.out) (by decide) hg); have n1_ := Aside0.mk (Kd.R_over' (v := (.slice (some ⟨go64, 0, none⟩) y323.length co64)) (tRr HO_315001) (Kd.R_typed HO325.out) (by decide) hg); have n2_ := Aside0.mk (Kd.R_after (v := (.slice (some ⟨go64, 0, none⟩) y323.length co64)) (v1 := (.slice (some ⟨go64, 0, none⟩) y323.length co64)) (ok := (fun _ => True)) (tRr HO_315002) hg (.inl rfl)); have n3_ := Aside0.mk (blk_grown (g := gb301) tB hg (Kd.R_ne HO325.out BK301.out (by decide))); have n4_ := Aside0.mk (blk_grown (g := gb314) tB hg (Kd.R_ne HO325.out BK314.out (by decide))); have n5_ := Aside0.mk (hp_); have n6_ := Aside0.mk ((by rw [hw]; exact below_set (HB.out) GB64.out : Below w.heap.size w w94)); clear HO_315000; clear HO_315001; clear HO_315002; clear BK301; clear BK314; clear HO325; clear HB; have HO_315000 := n0_; have HO_315001 := n1_; have HO_315002 := n2_; have BK301 := n3_; have BK314 := n4_; have HO325 := n5_; have HB := n6_; clear n0_ n1_ n2_ n3_ n4_ n5_ n6_; clear hg hw hp_))
                  have n0_ := Aside0.mk (Kd.R_drew HO_315000.out)
                  have n1_ := Aside0.mk (Kd.R_drew HO_315001.out)
                  have n2_ := Aside0.mk (Kd.R_drew HO_315002.out)
                  have n3_ := Aside0.mk (Kd.R_drew HO325.out)
                  have n4_ := Aside0.mk (blk_drew BK301.out)
                  have n5_ := Aside0.mk (blk_drew BK314.out)
                  have n6_ := Aside0.mk (below_drew1 HB.out)
                  clear HO_315000
                  clear HO_315001
                  clear HO_315002
                  clear HO325
                  clear BK301
                  clear BK314
                  clear HB
                  have HO_315000 := n0_
                  have HO_315001 := n1_
                  have HO_315002 := n2_
                  have HO325 := n3_
                  have BK301 := n4_
                  have BK314 := n5_
                  have HB := n6_
                  clear n0_ n1_ n2_ n3_ n4_ n5_ n6_
                  refine start_ (n := 16) (S := fun w' => True) (ds := []) (bl 16 0) (by kernel_rfl) rfl rfl trivial (fun hHeld => ?_); refine with_tabW eyewitnesslaw22_RunSwaps.tab10 eyewitnesslaw22_RunSwaps.bits10 (fun HT_ HW_ => ?_)
                  generalize w94.drew = w95 at HO_315000 HO_315001 HO_315002 HO325 BK301 BK314 HB hHeld ⊢
                  refine one_ (i := 0) (N := some 111) (bl 16 1) rfl rfl (one_of HT_.out (by kernel_rfl)) (by decide) (fun K hK => ?_)
                  refine goes_ Try.func7 (by kernel_rfl) rfl #[] (by rfl) rfl rfl (by (try simp only [List.map_toArray, List.map_cons, List.map_nil]); first | done | rfl | (simp only [List.length_drop, List.length_take]; rfl)) ?_
                  with_reducible refine (eyewitnesslaw22_awake.calls kj30  false _ A69.out).mono ?_
                  rintro e w96 ⟨rfl, hb⟩
                  refine ⟨_, rfl, ?_⟩
                  have n0_ := Aside0.mk (Kd.R_below (tRr HO_315000) hb)
                  have n1_ := Aside0.mk (Kd.R_below (tRr HO_315001) hb)
                  have n2_ := Aside0.mk (Kd.R_below (tRr HO_315002) hb)
                  have n3_ := Aside0.mk (Kd.R_below (tRr HO325) hb)
                  have n4_ := Aside0.mk (blk_below (g := gb301) tB hb)
                  have n5_ := Aside0.mk (blk_below (g := gb314) tB hb)
                  have n6_ := Aside0.mk (below_step tH hb)
                  clear HO_315000
                  clear HO_315001
                  clear HO_315002
                  clear HO325
                  clear BK301
                  clear BK314
                  clear HB
                  have HO_315000 := n0_
                  have HO_315001 := n1_
                  have HO_315002 := n2_
                  have HO325 := n3_
                  have BK301 := n4_
                  have BK314 := n5_
                  have HB := n6_
                  clear n0_ n1_ n2_ n3_ n4_ n5_ n6_
                  (try clear hb)
                  (try clear hb2)
                  (try clear hk)
                  (try clear hi)
                  refine hK.out _ _ trivial (fun hHeld => ?_)
                  clear hK K
                  refine norm_ (a' := ?_) ?_ ?_
                  rotate_left
                  ·show Act.put _ (some 111) _ = _
                   simp only [Act.put, List.setIfInBounds_toArray, List.set_cons_zero, List.set_cons_succ, i64_w, i32_w]
                   rfl
                  refine pX 1 112 (bl 16 3) HT_ rfl rfl kA (fun _ _ _ h => h) yA hA ?_
                  refine pU 2 113 (bl 16 7) HT_ rfl rfl kA (fun _ _ _ h => h) (by rfl) hA ?_
                  refine pU 3 114 (bl 16 15) HT_ rfl rfl kA (fun _ _ _ h => h) (by rfl) hA ?_
                  refine pU 4 115 (bl 16 31) HT_ rfl rfl kA (fun _ _ _ h => h) (by rfl) hA ?_
                  refine pU 5 116 (bl 16 63) HT_ rfl rfl kA (fun _ _ _ h => h) (by rfl) hA ?_
                  refine pU 6 117 (bl 16 127) HT_ rfl rfl kA (fun _ _ _ h => h) (by rfl) hA ?_
                  refine pU 7 118 (bl 16 255) HT_ rfl rfl kA (fun _ _ _ h => h) (by rfl) hA ?_
                  refine pU 8 119 (bl 16 511) HT_ rfl rfl kA (fun _ _ _ h => h) (by rfl) hA ?_
                  refine pU 9 120 (bl 16 1023) HT_ rfl rfl kA (fun _ _ _ h => h) (by rfl) hA ?_
                  refine pU 10 121 (bl 16 2047) HT_ rfl rfl kA (fun _ _ _ h => h) (by rfl) hA ?_
                  refine pU 11 122 (bl 16 4095) HT_ rfl rfl kA (fun _ _ _ h => h) (by rfl) hA ?_
                  refine pU 12 123 (bl 16 8191) HT_ rfl rfl kA (fun _ _ _ h => h) (by rfl) hA ?_
                  refine pU 13 124 (bl 16 16383) HT_ rfl rfl kA (fun _ _ _ h => h) (by rfl) hA ?_
                  refine pX 14 125 (bl 16 32767) HT_ rfl rfl kA (fun _ _ _ h => h) yA hA ?_
                  refine pX 15 4 (bl 16 65535) HT_ rfl rfl kA (fun _ _ _ h => h) yA hA ?_
                  refine done_ (done_of HT_.out (by kernel_rfl)) ?_
                  try go_wp2
                  go_ret
                  exact ⟨by first | rfl | (simp [errW_none, errW_some] <;> rfl) | (simp only [← hji25, ← hji28, ← hji28]; first | rfl | (simp [errW_none, errW_some] <;> rfl)) | (simp [*, errW_none, errW_some] <;> rfl), tH⟩
                ·rw [if_neg c67] at H
                 exact absurd H (by simp)
               ·rw [if_neg c66] at H
                exact absurd H (by simp)
              ·rw [if_neg c63] at H
               exact absurd H (by simp)
             ·rw [if_neg c62] at H
              exact absurd H (by simp)
            ·rw [if_neg c61] at H
             exact absurd H (by simp)
        ·rw [if_neg c30] at H
         exact absurd H (by simp)
       ·rw [if_neg c29] at H
        exact absurd H (by simp)
      ·rw [if_neg c27] at H
       exact absurd H (by simp)
     ·rw [if_neg c26] at H
      exact absurd H (by simp)

end Go.Proofs.Ytcnjnollmamifaa.P
