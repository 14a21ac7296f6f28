-- written by a program (wip/tools/pr.py: the kit's print over this seat)
import Derived.Test.YtcnjnollmamifaaPKinds
import Derived.Test.YtcnjnollmamifaaPRef22Item
import Derived.Test.YtcnjnollmamifaaPRef22Has
import Derived.Test.YtcnjnollmamifaaPRef22Last
namespace Go.Proofs.Ytcnjnollmamifaa.P
open Go.RowKit Go.Proofs.YtcnjnollmamifaaW.PrintWords Go.Proofs.YtcnjnollmamifaaW.PrintLast Go.Proofs.YtcnjnollmamifaaW.PrintMore
attribute [local go_sem] max2_int min2_int max_two min_two max_three min_three max_four min_four   -- for this text's walks alone
set_option linter.unusedVariables false
set_option linter.unusedSimpArgs false

/-! ### eyewitnessref22_Wrong: function 10 -/
def eyewitnessref22_Wrong.l0 : Nat → List Int → List Int → Int → List ByteArray → List (S40) → List Int → Option (Int × Bool)
 | 0, _, _, _, _, _, _ => none
 | k + 1, x1, x2, x8, x241000, x241001, x241002 => if x8 < (x1.length : Int) then (if 0 ≤ x8 then ((eyewitnessref22_item.f x241000 x241001 x241002 (rd x1 x8)).bind fun t242 => (if t242 = true then ((eyewitnessref22_has.f k x2 (rd x1 x8)).bind fun t243 => (if t243 = true then (if 0 ≤ (rd x1 x8) then (if (rd x1 x8) < (x241001.length : Int) then (if ((rd_T40 x241001 (rd x1 x8)).f2 = true) then (eyewitnessref22_Wrong.l0 k x1 x2 (wrap64 (x8 + 1)) x241000 x241001 x241002) else (if (rd x1 x8) < (x241002.length : Int) then (if x8 ≤ (x1.length : Int) then ((eyewitnessref22_last.f k x241000 x241001 x241002 (x1.take (x8 : Int).toNat) ((rd_T40 x241001 (rd x1 x8)).f3)).bind fun t248 => (if (rd x241002 (rd x1 x8)) = t248 then (eyewitnessref22_Wrong.l0 k x1 x2 (wrap64 (x8 + 1)) x241000 x241001 x241002) else (some (x8, true)))) else (none)) else (none))) else (none)) else (none)) else (eyewitnessref22_Wrong.l0 k x1 x2 (wrap64 (x8 + 1)) x241000 x241001 x241002))) else (eyewitnessref22_Wrong.l0 k x1 x2 (wrap64 (x8 + 1)) x241000 x241001 x241002))) else (none)) else (some (0, false))
def eyewitnessref22_Wrong.f (k : Nat) (l0_0 : List ByteArray) (l0_1 : List (S40)) (l0_2 : List Int) (l1 : List Int) (l2 : List Int) : Option (Int × Bool) := eyewitnessref22_Wrong.l0 k l1 l2 0 l0_0 l0_1 l0_2
theorem eyewitnessref22_Wrong.mono_l : ∀ k, (∀ y0 y1 y2 y3 y4 y5, LeO (eyewitnessref22_Wrong.l0 k y0 y1 y2 y3 y4 y5) (eyewitnessref22_Wrong.l0 (k + 1) y0 y1 y2 y3 y4 y5))
 | 0 => fun _ _ _ _ _ _ r h => by simp [eyewitnessref22_Wrong.l0] at h
 | k + 1 => by
  have ih0 := eyewitnessref22_Wrong.mono_l k
  ·intro y0 y1 y2 y3 y4 y5
   unfold eyewitnessref22_Wrong.l0
   repeat' first
   | (with_reducible exact ih0 _ _ _ _ _ _)
   | (with_reducible exact eyewitnessref22_has.mono _ _ _)
   | (with_reducible exact eyewitnessref22_last.mono _ _ _ _ _ _)
   | (with_reducible exact LeO.refl _)
   | (with_reducible exact LeO.none _)
   | (with_reducible refine LeO.ite ?_ ?_)
   | (with_reducible refine LeO.bind ?_ (fun _ => ?_))
   | exact ih0 _ _ _ _ _ _
   | exact eyewitnessref22_has.mono _ _ _
   | exact eyewitnessref22_last.mono _ _ _ _ _ _
   | exact LeO.none _
   | refine LeO.ite ?_ ?_
   | refine LeO.bind ?_ (fun _ => ?_)
theorem eyewitnessref22_Wrong.mono : ∀ a0 a1 a2 a3 a4 k, LeO (eyewitnessref22_Wrong.f k a0 a1 a2 a3 a4) (eyewitnessref22_Wrong.f (k + 1) a0 a1 a2 a3 a4) := by
 intro a0 a1 a2 a3 a4 k
 have ih0 := eyewitnessref22_Wrong.mono_l k
 unfold eyewitnessref22_Wrong.f
 repeat' first
   | (with_reducible exact ih0 _ _ _ _ _ _)
   | (with_reducible exact eyewitnessref22_has.mono _ _ _)
   | (with_reducible exact eyewitnessref22_last.mono _ _ _ _ _ _)
   | (with_reducible exact LeO.refl _)
   | (with_reducible exact LeO.none _)
   | (with_reducible refine LeO.ite ?_ ?_)
   | (with_reducible refine LeO.bind ?_ (fun _ => ?_))
   | exact ih0 _ _ _ _ _ _
   | exact eyewitnessref22_has.mono _ _ _
   | exact eyewitnessref22_last.mono _ _ _ _ _ _
   | exact LeO.none _
   | refine LeO.ite ?_ ?_
   | refine LeO.bind ?_ (fun _ => ?_)
def eyewitnessref22_Wrong.T5 : Bool × List (List Nat × List Nat) := (true, [([], []), ([], []), ([0, 1], [0, 1]), ([2, 2], [2]), ([3], [3]), ([3], [3]), ([4, 5, 3, 3], [3, 4, 5]), ([3, 6], [3, 6]), ([7, 6], [7]), ([8], [8]), ([9, 8], [8, 9]), ([8], [8]), ([10, 11, 8], [8, 10, 11]), ([12, 8], [8, 12]), ([13, 8], [8, 13]), ([14, 8], [8, 14]), ([8, 15], [8, 15]), ([16, 8], [16]), ([17], [17]), ([18, 17], [17, 18]), ([17], [17]), ([19, 20, 17], [17, 19, 20]), ([21, 17], [17, 21]), ([17], [17]), ([17], [17]), ([17], [17]), ([24, 25, 17], [17, 24, 25]), ([17], [17]), ([27, 17], [17, 27]), ([17], [17]), ([28, 29, 17], [17, 28, 29]), ([30, 17], [17, 30]), ([31, 17], [17, 31]), ([23, 26, 32, 17, 17], [17, 23, 26, 32]), ([22, 33, 17], [17, 22, 33]), ([17, 34], [17, 34])])
def eyewitnessref22_Wrong.B5 : List Nat := [0, 0, 3, 7, 15, 15, 63, 127, 255, 511, 1023, 511, 4095, 8191, 16383, 32767, 65535, 131071, 262143, 524287, 262143, 2097151, 4194303, 262143, 262143, 262143, 50593791, 262143, 134479871, 262143, 939786239, 2013528063, 4161011711, 8581808127, 17179869183, 34359738367]
theorem eyewitnessref22_Wrong.tab5 : rtab .any (opsOf Try.f10 5) = eyewitnessref22_Wrong.T5 := by kernel_rfl
theorem eyewitnessref22_Wrong.bits5 : waitsOk eyewitnessref22_Wrong.T5.2 eyewitnessref22_Wrong.B5 = true := by kernel_rfl
set_option maxHeartbeats 8000000 in
set_option maxRecDepth 100000 in
theorem eyewitnessref22_Wrong.calls (k : Nat) (A0_0 : Option Addr) (c0_0 : Nat) (l0_0 : List ByteArray) (A0_1 : Option Addr) (c0_1 : Nat) (l0_1 : List (S40)) (A0_2 : Option Addr) (c0_2 : Nat) (l0_2 : List Int) (A1 : Option Addr) (c1 : Nat) (l1 : List Int) (A2 : Option Addr) (c2 : Nat) (l2 : List Int) (r1 : Int) (r2 : Bool) (w : World) (hr0_0 : Kd.C Kd.string w A0_0 l0_0.length l0_0) (hc0_0 : l0_0.length ≤ c0_0) (hr0_1 : Kd.C k40 w A0_1 l0_1.length l0_1) (hc0_1 : l0_1.length ≤ c0_1) (hr0_2 : Kd.C (Kd.int .i64) w A0_2 l0_2.length l0_2) (hc0_2 : l0_2.length ≤ c0_2) (hr1 : Kd.C (Kd.int .i64) w A1 l1.length l1) (hc1 : l1.length ≤ c1) (hr2 : Kd.C (Kd.int .i64) w A2 l2.length l2) (hc2 : l2.length ≤ c2) (h : eyewitnessref22_Wrong.f k l0_0 l0_1 l0_2 l1 l2 = some (r1, r2)) :
  Calls Try.prog 10 #[.agg #[.slice A0_0 l0_0.length c0_0, .slice A0_1 l0_1.length c0_1, .slice A0_2 l0_2.length c0_2], .slice A1 l1.length c1, .slice A2 l2.length c2] w fun e w' => e = .returned (.tuple #[.int .i64 r1, .bool r2]) ∧ Below w.heap.size w w' := by
 have hu31 := Try.underlying31
 have HR0_0 := Aside0.mk hr0_0
 have HC0_0 := Aside0.mk hc0_0
 clear hr0_0 hc0_0
 have HR0_1 := Aside0.mk hr0_1
 have HC0_1 := Aside0.mk hc0_1
 clear hr0_1 hc0_1
 have HR0_2 := Aside0.mk hr0_2
 have HC0_2 := Aside0.mk hc0_2
 clear hr0_2 hc0_2
 have HR1 := Aside0.mk hr1
 have HC1 := Aside0.mk hc1
 clear hr1 hc1
 have HR2 := Aside0.mk hr2
 have HC2 := Aside0.mk hc2
 clear hr2 hc2
 have HB := Aside0.mk (Below.refl w.heap.size w)
 have H : (eyewitnessref22_Wrong.l0 k l1 l2 0 l0_0 l0_1 l0_2) = some (r1, r2) := h
 clear h
 have H' := Aside0.mk H
 clear H
 go_enter Try.func10, Try.ntmps10
 go_wp2_with (first | ((with_reducible refine gate_dst (N := 3) rfl ?_); refine box_event ?hg (N := 3) ?hd (cs := #[.slice A0_0 l0_0.length c0_0, .slice A0_1 l0_1.length c0_1, .slice A0_2 l0_2.length c0_2]) (t := 31) ?hr ?_; (case hd => rfl); (case hg => rfl); (case hr => first | (go_simp; done) | (go_simp; rfl)); intro gb240 hg w4 hbox hb; have n0_ := Aside0.mk (below_step tH hb); have n1_ := Aside0.mk (hbox); have n2_ := Aside0.mk ((by rw [hg]; exact (below_size tH) : w.heap.size ≤ gb240)); have n3_ := Aside0.mk ((by rw [hg]; exact (below_size tH) : w.heap.size ≤ gb240)); clear HB; have HB := n0_; have BK240 := n1_; have GW240 := n2_; have GE240 := n3_; clear n0_ n1_ n2_ n3_; clear hb hbox hg))
 go_loopg [8] k (fun kq v8 w' => ∃ (x8_1 : Int), v8 = .int .i64 x8_1 ∧ Aside0 (eyewitnessref22_Wrong.l0 kq l1 l2 x8_1 l0_0 l0_1 l0_2 = some (r1, r2)) ∧ Aside0 (kq ≤ k) ∧ Aside0 (w'.heap[gb240]? = some (.cells #[(.slice A0_0 l0_0.length c0_0), (.slice A0_1 l0_1.length c0_1), (.slice A0_2 l0_2.length c0_2)] 31 (0, 0))) ∧ Aside0 (Below w.heap.size w w'))
 case atStart => exact ⟨(0), (by first | rfl | (simp; done) | (simp [*]; done)), H', ⟨Nat.le_refl _⟩, ⟨by (with_reducible repeat (first | refine blk_drewN ?_ _ | refine blk_drew ?_ | refine blk_alloc ?_ _)); exact BK240.out⟩, ⟨tH⟩⟩
 case round =>
  clear H'
  try clear c1
  try clear c2
  try clear p2
  obtain ⟨x8_1, rfl, HA, HK1, BK240, HB⟩ := hrel
  cases gk with
  | zero => exact absurd HA.out (by simp [eyewitnessref22_Wrong.l0])
  | succ k1 =>
   have H := HA.out
   clear HA
   simp only [eyewitnessref22_Wrong.l0] at H
   by_cases c5 : x8_1 < (l1.length : Int)
   ·rw [if_pos c5] at H
    have c5b0 : decide (x8_1 < (l1.length : Int)) = true := decide_eq_true c5
    clear c5
    by_cases c6 : 0 ≤ x8_1
    ·rw [if_pos c6] at H
     have c6b0 : decide (0 ≤ x8_1) = true := decide_eq_true c6
     clear c6
     replace H := Option.bind_eq_some_iff.mp H
     obtain ⟨t242, A70, H⟩ := H
     replace H : (if t242 = true then ((eyewitnessref22_has.f k1 l2 (rd l1 x8_1)).bind fun t243 => (if t243 = true then (if 0 ≤ (rd l1 x8_1) then (if (rd l1 x8_1) < (l0_1.length : Int) then (if ((rd_T40 l0_1 (rd l1 x8_1)).f2 = true) then (eyewitnessref22_Wrong.l0 k1 l1 l2 (wrap64 (x8_1 + 1)) l0_0 l0_1 l0_2) else (if (rd l1 x8_1) < (l0_2.length : Int) then (if x8_1 ≤ (l1.length : Int) then ((eyewitnessref22_last.f k1 l0_0 l0_1 l0_2 (l1.take (x8_1 : Int).toNat) ((rd_T40 l0_1 (rd l1 x8_1)).f3)).bind fun t248 => (if (rd l0_2 (rd l1 x8_1)) = t248 then (eyewitnessref22_Wrong.l0 k1 l1 l2 (wrap64 (x8_1 + 1)) l0_0 l0_1 l0_2) else (some (x8_1, true)))) else (none)) else (none))) else (none)) else (none)) else (eyewitnessref22_Wrong.l0 k1 l1 l2 (wrap64 (x8_1 + 1)) l0_0 l0_1 l0_2))) else (eyewitnessref22_Wrong.l0 k1 l1 l2 (wrap64 (x8_1 + 1)) l0_0 l0_1 l0_2)) = some (r1, r2) := H
     have A7 := Aside0.mk A70
     clear A70
     by_cases c8 : t242 = true
     ·subst c8
      have H1 : ((eyewitnessref22_has.f k1 l2 (rd l1 x8_1)).bind fun t243 => (if t243 = true then (if 0 ≤ (rd l1 x8_1) then (if (rd l1 x8_1) < (l0_1.length : Int) then (if ((rd_T40 l0_1 (rd l1 x8_1)).f2 = true) then (eyewitnessref22_Wrong.l0 k1 l1 l2 (wrap64 (x8_1 + 1)) l0_0 l0_1 l0_2) else (if (rd l1 x8_1) < (l0_2.length : Int) then (if x8_1 ≤ (l1.length : Int) then ((eyewitnessref22_last.f k1 l0_0 l0_1 l0_2 (l1.take (x8_1 : Int).toNat) ((rd_T40 l0_1 (rd l1 x8_1)).f3)).bind fun t248 => (if (rd l0_2 (rd l1 x8_1)) = t248 then (eyewitnessref22_Wrong.l0 k1 l1 l2 (wrap64 (x8_1 + 1)) l0_0 l0_1 l0_2) else (some (x8_1, true)))) else (none)) else (none))) else (none)) else (none)) else (eyewitnessref22_Wrong.l0 k1 l1 l2 (wrap64 (x8_1 + 1)) l0_0 l0_1 l0_2))) = some (r1, r2) := by rw [if_pos rfl] at H; exact H
      clear H
      have H := H1
      clear H1
      replace H := Option.bind_eq_some_iff.mp H
      obtain ⟨t243, A90, H⟩ := H
      replace H : (if t243 = true then (if 0 ≤ (rd l1 x8_1) then (if (rd l1 x8_1) < (l0_1.length : Int) then (if ((rd_T40 l0_1 (rd l1 x8_1)).f2 = true) then (eyewitnessref22_Wrong.l0 k1 l1 l2 (wrap64 (x8_1 + 1)) l0_0 l0_1 l0_2) else (if (rd l1 x8_1) < (l0_2.length : Int) then (if x8_1 ≤ (l1.length : Int) then ((eyewitnessref22_last.f k1 l0_0 l0_1 l0_2 (l1.take (x8_1 : Int).toNat) ((rd_T40 l0_1 (rd l1 x8_1)).f3)).bind fun t248 => (if (rd l0_2 (rd l1 x8_1)) = t248 then (eyewitnessref22_Wrong.l0 k1 l1 l2 (wrap64 (x8_1 + 1)) l0_0 l0_1 l0_2) else (some (x8_1, true)))) else (none)) else (none))) else (none)) else (none)) else (eyewitnessref22_Wrong.l0 k1 l1 l2 (wrap64 (x8_1 + 1)) l0_0 l0_1 l0_2)) = some (r1, r2) := H
      have A9 := Aside0.mk A90
      clear A90
      by_cases c10 : t243 = true
      ·subst c10
       have H1 : (if 0 ≤ (rd l1 x8_1) then (if (rd l1 x8_1) < (l0_1.length : Int) then (if ((rd_T40 l0_1 (rd l1 x8_1)).f2 = true) then (eyewitnessref22_Wrong.l0 k1 l1 l2 (wrap64 (x8_1 + 1)) l0_0 l0_1 l0_2) else (if (rd l1 x8_1) < (l0_2.length : Int) then (if x8_1 ≤ (l1.length : Int) then ((eyewitnessref22_last.f k1 l0_0 l0_1 l0_2 (l1.take (x8_1 : Int).toNat) ((rd_T40 l0_1 (rd l1 x8_1)).f3)).bind fun t248 => (if (rd l0_2 (rd l1 x8_1)) = t248 then (eyewitnessref22_Wrong.l0 k1 l1 l2 (wrap64 (x8_1 + 1)) l0_0 l0_1 l0_2) else (some (x8_1, true)))) else (none)) else (none))) else (none)) else (none)) = some (r1, r2) := by rw [if_pos rfl] at H; exact H
       clear H
       have H := H1
       clear H1
       by_cases c11 : 0 ≤ (rd l1 x8_1)
       ·rw [if_pos c11] at H
        have c11b0 : decide (0 ≤ (rd l1 x8_1)) = true := decide_eq_true c11
        clear c11
        by_cases c12 : (rd l1 x8_1) < (l0_1.length : Int)
        ·rw [if_pos c12] at H
         have c12b0 : decide ((rd l1 x8_1) < (l0_1.length : Int)) = true := decide_eq_true c12
         clear c12
         obtain ⟨bq13, hbq13⟩ : ∃ b_ : Bool, b_ = ((rd_T40 l0_1 (rd l1 x8_1)).f2) := ⟨_, rfl⟩
         replace H : (if (bq13 = true) then (eyewitnessref22_Wrong.l0 k1 l1 l2 (wrap64 (x8_1 + 1)) l0_0 l0_1 l0_2) else (if (rd l1 x8_1) < (l0_2.length : Int) then (if x8_1 ≤ (l1.length : Int) then ((eyewitnessref22_last.f k1 l0_0 l0_1 l0_2 (l1.take (x8_1 : Int).toNat) ((rd_T40 l0_1 (rd l1 x8_1)).f3)).bind fun t248 => (if (rd l0_2 (rd l1 x8_1)) = t248 then (eyewitnessref22_Wrong.l0 k1 l1 l2 (wrap64 (x8_1 + 1)) l0_0 l0_1 l0_2) else (some (x8_1, true)))) else (none)) else (none))) = some (r1, r2) := by rw [← hbq13] at H; exact H
         have Nbq13 := Aside0.mk hbq13
         clear hbq13
         by_cases c14 : (bq13 = true)
         ·subst c14
          have H1 : (eyewitnessref22_Wrong.l0 k1 l1 l2 (wrap64 (x8_1 + 1)) l0_0 l0_1 l0_2) = some (r1, r2) := by rw [if_pos rfl] at H; exact H
          clear H
          have H := H1
          clear H1
          have H' := Aside0.mk H
          clear H
          have p241 : 0 ≤ (x8_1 : Int) := of_decide_eq_true aS
          have q241 : x8_1 < (l1.length : Int) := of_decide_eq_true aS
          obtain ⟨ad241, e241, hx241_0⟩ := Kd.at_int HR1.out x8_1 p241 q241
          cases e241
          replace hx241_0 := pw_cell_below HB.out hx241_0
          replace p241 := eq_true p241
          replace q241 := eq_true q241
          try go_wp2
          have n0_ := Aside0.mk (blk_drew BK240.out)
          have n1_ := Aside0.mk (below_drew1 HB.out)
          clear BK240
          clear HB
          have BK240 := n0_
          have HB := n1_
          clear n0_ n1_
          have p244 : 0 ≤ ((rd l1 x8_1) : Int) := of_decide_eq_true aS
          have q244 : (rd l1 x8_1) < (l0_1.length : Int) := of_decide_eq_true aS
          obtain ⟨ad244, e244, hx244_0, hx244_1, hx244_2, hx244_3, hx244_4⟩ := at_T40 HR0_1.out (rd l1 x8_1) p244 q244
          have hw244_4 := hx244_4
          have hw244_3 := hx244_3
          have hw244_2 := hx244_2
          have hw244_1 := hx244_1
          have hw244_0 := hx244_0
          (try rw [← Nbq13.out] at hx244_2)
          (try rw [← Nbq13.out] at hw244_2)
          cases e244
          replace hx244_0 := pw_cell_below HB.out hx244_0
          replace hx244_1 := pw_cell_below HB.out hx244_1
          replace hx244_2 := pw_cell_below HB.out hx244_2
          replace hx244_3 := pw_cell_below HB.out hx244_3
          replace hx244_4 := pw_cell_below HB.out hx244_4
          replace p244 := eq_true p244
          replace q244 := eq_true q244
          refine start_ (n := 36) (S := fun w' => w'.cell? ⟨gb240, 0, none⟩ = some (.slice A0_0 l0_0.length c0_0) ∧ w'.cell? ⟨gb240, 1, none⟩ = some (.slice (some ad244) l0_1.length c0_1) ∧ w'.cell? ⟨gb240, 2, none⟩ = some (.slice A0_2 l0_2.length c0_2) ∧ w'.cell? (ad244.add (((rd l1 x8_1)).toNat * 5)) = some (.int .i64 ((rd_T40 l0_1 (rd l1 x8_1)).f0)) ∧ w'.cell? ⟨(ad244.add (((rd l1 x8_1)).toNat * 5)).block, (ad244.add (((rd l1 x8_1)).toNat * 5)).off + 1, none⟩ = some (.int .i64 ((rd_T40 l0_1 (rd l1 x8_1)).f1)) ∧ w'.cell? ⟨(ad244.add (((rd l1 x8_1)).toNat * 5)).block, (ad244.add (((rd l1 x8_1)).toNat * 5)).off + 2, none⟩ = some (.bool true) ∧ w'.cell? ⟨(ad244.add (((rd l1 x8_1)).toNat * 5)).block, (ad244.add (((rd l1 x8_1)).toNat * 5)).off + 3, none⟩ = some (.int .i64 ((rd_T40 l0_1 (rd l1 x8_1)).f3)) ∧ w'.cell? ⟨(ad244.add (((rd l1 x8_1)).toNat * 5)).block, (ad244.add (((rd l1 x8_1)).toNat * 5)).off + 4, none⟩ = some (.int .i64 ((rd_T40 l0_1 (rd l1 x8_1)).f4))) (ds := []) (bl 36 0) (by kernel_rfl) rfl rfl ⟨(blk_cell BK240.out 0).trans rfl, (blk_cell BK240.out 1).trans rfl, (blk_cell BK240.out 2).trans rfl, (pw_cell_below HB.out hw244_0), (pw_cell_below HB.out hw244_1), (pw_cell_below HB.out hw244_2), (pw_cell_below HB.out hw244_3), (pw_cell_below HB.out hw244_4)⟩ (fun hHeld => ?_); refine with_tabW eyewitnessref22_Wrong.tab5 eyewitnessref22_Wrong.bits5 (fun HT_ HW_ => ?_)
          generalize wr.drew = w15 at BK240 HB hx244_0 hx244_1 hx244_2 hx244_3 hx244_4 hHeld ⊢
          refine pX 1 21 (bl 36 2) HT_ rfl rfl kA (fun _ _ _ h => h) yA hA ?_
          refine pT 0 20 (bl 36 3) HT_ HW_ rfl rfl kA (fun _ _ _ h => h) yS hHeld hA ?_
          refine one_ (i := 2) (N := some 22) (bl 36 7) rfl rfl (one_of HT_.out (by kernel_rfl)) (by decide) (fun K hK => ?_)
          refine goes_ Try.func19 (by kernel_rfl) rfl #[.agg #[.slice A0_0 l0_0.length c0_0, .slice (some ad244) l0_1.length c0_1, .slice A0_2 l0_2.length c0_2], .int .i64 (rd l1 x8_1)] (by rfl) rfl rfl (by (try simp only [List.map_toArray, List.map_cons, List.map_nil]); first | done | rfl | (simp only [List.length_drop, List.length_take]; rfl)) ?_
          with_reducible refine (eyewitnessref22_item.calls _ _ l0_0 _ _ l0_1 _ _ l0_2 (rd l1 x8_1) true _ ?side1 ?side2 ?side3 ?side4 ?side5 ?side6 A7.out).mono ?_
          (case side1 => exact tC HR0_0)
          (case side2 => exact HC0_0.out)
          (case side3 => exact tC HR0_1)
          (case side4 => exact HC0_1.out)
          (case side5 => exact tC HR0_2)
          (case side6 => exact HC0_2.out)
          rintro e w16 ⟨rfl, hb⟩
          refine ⟨_, rfl, ?_⟩
          have n0_ := Aside0.mk (blk_below (g := gb240) tB hb)
          have n1_ := Aside0.mk (below_step tH hb)
          clear BK240
          clear HB
          have BK240 := n0_
          have HB := n1_
          clear n0_ n1_
          (try clear hb)
          (try clear hb2)
          (try clear hk)
          (try clear hi)
          refine hK.out _ _ ⟨(blk_cell BK240.out 0).trans rfl, (blk_cell BK240.out 1).trans rfl, (blk_cell BK240.out 2).trans rfl, (pw_cell_below HB.out hw244_0), (pw_cell_below HB.out hw244_1), (pw_cell_below HB.out hw244_2), (pw_cell_below HB.out hw244_3), (pw_cell_below HB.out hw244_4)⟩ (fun hHeld => ?_)
          clear hK K
          refine norm_ (a' := ?_) ?_ ?_
          rotate_left
          ·show Act.put _ (some 22) _ = _
           simp only [Act.put, List.setIfInBounds_toArray, List.set_cons_zero, List.set_cons_succ, i64_w, i32_w]
           rfl
          refine pX 3 23 (bl 36 15) HT_ rfl rfl kA (fun _ _ _ h => h) yA hA ?_
          refine pX 4 24 (bl 36 31) HT_ rfl rfl kA (fun _ _ _ h => h) yA hA ?_
          refine pX 5 25 (bl 36 63) HT_ rfl rfl kA (fun _ _ _ h => h) yA hA ?_
          refine one_ (i := 6) (N := some 26) (bl 36 127) rfl rfl (one_of HT_.out (by kernel_rfl)) (by decide) (fun K hK => ?_)
          refine goes_ Try.func20 (by kernel_rfl) rfl #[.slice A2 l2.length c2, .int .i64 (rd l1 x8_1)] (by rfl) rfl rfl (by (try simp only [List.map_toArray, List.map_cons, List.map_nil]); first | done | rfl | (simp only [List.length_drop, List.length_take]; rfl)) ?_
          with_reducible refine (eyewitnessref22_has.calls k1 _ _ l2 (rd l1 x8_1) true _ ?side1 ?side2 A9.out).mono ?_
          (case side1 => exact tC HR2)
          (case side2 => exact HC2.out)
          rintro e w' ⟨rfl, ⟨nd, rfl⟩⟩
          refine ⟨_, rfl, ?_⟩
          refine hK.out _ _ ⟨(blk_cell BK240.out 0).trans rfl, (blk_cell BK240.out 1).trans rfl, (blk_cell BK240.out 2).trans rfl, (pw_cell_below HB.out hw244_0), (pw_cell_below HB.out hw244_1), (pw_cell_below HB.out hw244_2), (pw_cell_below HB.out hw244_3), (pw_cell_below HB.out hw244_4)⟩ (fun hHeld => ?_)
          clear hK K
          refine norm_ (a' := ?_) ?_ ?_
          rotate_left
          ·show Act.put _ (some 26) _ = _
           simp only [Act.put, List.setIfInBounds_toArray, List.set_cons_zero, List.set_cons_succ, i64_w, i32_w]
           rfl
          refine pX 7 27 (bl 36 255) HT_ rfl rfl kA (fun _ _ _ h => h) yA hA ?_
          refine pX 8 28 (bl 36 511) HT_ rfl rfl kA (fun _ _ _ h => h) yA hA ?_
          refine pX 9 29 (bl 36 1023) HT_ rfl rfl kA (fun _ _ _ h => h) yA hA ?_
          refine pX 11 31 (bl 36 3071) HT_ rfl rfl kA (fun _ _ _ h => h) yA hA ?_
          refine pT 10 30 (bl 36 4095) HT_ HW_ rfl rfl kA (fun _ _ _ h => h) yS hHeld hA ?_
          refine pX 12 32 (bl 36 8191) HT_ rfl rfl kA (fun _ _ _ h => h) yA hA ?_
          refine pX 13 33 (bl 36 16383) HT_ rfl rfl kA (fun _ _ _ h => h) yA hA ?_
          refine pT 14 34 (bl 36 32767) HT_ HW_ rfl rfl kA (fun _ _ _ h => h) yS hHeld hA ?_
          refine pX 15 35 (bl 36 65535) HT_ rfl rfl kA (fun _ _ _ h => h) yA hA ?_
          refine pX 16 36 (bl 36 131071) HT_ rfl rfl kA (fun _ _ _ h => h) yA hA ?_
          refine pX 17 37 (bl 36 262143) HT_ rfl rfl kA (fun _ _ _ h => h) yA hA ?_
          refine pU 18 38 (bl 36 524287) HT_ rfl rfl kA (fun _ _ _ h => h) (by rfl) hA ?_
          refine pU 19 39 (bl 36 1048575) HT_ rfl rfl kA (fun _ _ _ h => h) (by rfl) hA ?_
          refine pU 20 40 (bl 36 2097151) HT_ rfl rfl kA (fun _ _ _ h => h) (by rfl) hA ?_
          refine pU 21 41 (bl 36 4194303) HT_ rfl rfl kA (fun _ _ _ h => h) (by rfl) hA ?_
          refine pU 22 42 (bl 36 8388607) HT_ rfl rfl kA (fun _ _ _ h => h) (by rfl) hA ?_
          refine pU 23 43 (bl 36 16777215) HT_ rfl rfl kA (fun _ _ _ h => h) (by rfl) hA ?_
          refine pU 24 44 (bl 36 33554431) HT_ rfl rfl kA (fun _ _ _ h => h) (by rfl) hA ?_
          refine pU 25 45 (bl 36 67108863) HT_ rfl rfl kA (fun _ _ _ h => h) (by rfl) hA ?_
          refine pU 26 46 (bl 36 134217727) HT_ rfl rfl kA (fun _ _ _ h => h) (by rfl) hA ?_
          refine pU 27 47 (bl 36 268435455) HT_ rfl rfl kA (fun _ _ _ h => h) (by rfl) hA ?_
          refine pU 28 48 (bl 36 536870911) HT_ rfl rfl kA (fun _ _ _ h => h) (by rfl) hA ?_
          refine pU 29 49 (bl 36 1073741823) HT_ rfl rfl kA (fun _ _ _ h => h) (by rfl) hA ?_
          refine pU 30 50 (bl 36 2147483647) HT_ rfl rfl kA (fun _ _ _ h => h) (by rfl) hA ?_
          refine pU 31 51 (bl 36 4294967295) HT_ rfl rfl kA (fun _ _ _ h => h) (by rfl) hA ?_
          refine pU 32 52 (bl 36 8589934591) HT_ rfl rfl kA (fun _ _ _ h => h) (by rfl) hA ?_
          refine pU 33 53 (bl 36 17179869183) HT_ rfl rfl kA (fun _ _ _ h => h) (by rfl) hA ?_
          refine pU 34 54 (bl 36 34359738367) HT_ rfl rfl kA (fun _ _ _ h => h) (by rfl) hA ?_
          refine pX 35 55 (bl 36 68719476735) HT_ rfl rfl kA (fun _ _ _ h => h) yA hA ?_
          refine done_ (done_of HT_.out (by kernel_rfl)) ?_
          try go_wp2
          go_roundg k1
          case measure => have := HK1.out; omega
          case rel => exact ⟨(wrap64 (x8_1 + 1)), (by first | rfl | (simp; done) | (simp [*]; done)), H', ⟨by have := HK1.out; omega⟩, ⟨by (with_reducible repeat (first | refine blk_drewN ?_ _ | refine blk_drew ?_ | refine blk_alloc ?_ _)); exact BK240.out⟩, ⟨tH⟩⟩
         ·replace c14 := Bool.eq_false_iff.mpr c14
          subst c14
          have H1 : (if (rd l1 x8_1) < (l0_2.length : Int) then (if x8_1 ≤ (l1.length : Int) then ((eyewitnessref22_last.f k1 l0_0 l0_1 l0_2 (l1.take (x8_1 : Int).toNat) ((rd_T40 l0_1 (rd l1 x8_1)).f3)).bind fun t248 => (if (rd l0_2 (rd l1 x8_1)) = t248 then (eyewitnessref22_Wrong.l0 k1 l1 l2 (wrap64 (x8_1 + 1)) l0_0 l0_1 l0_2) else (some (x8_1, true)))) else (none)) else (none)) = some (r1, r2) := by rw [if_neg (show ¬ (false = true) by decide)] at H; exact H
          clear H
          have H := H1
          clear H1
          by_cases c17 : (rd l1 x8_1) < (l0_2.length : Int)
          ·rw [if_pos c17] at H
           have c17b0 : decide ((rd l1 x8_1) < (l0_2.length : Int)) = true := decide_eq_true c17
           clear c17
           have c18b0 := eq_true (of_decide_eq_true aS : 0 ≤ x8_1)
           by_cases c19 : x8_1 ≤ (l1.length : Int)
           ·rw [if_pos c19] at H
            have c19b0 := eq_true c19
            have c19b1 : decide (x8_1 ≤ (l1.length : Int)) = true := decide_eq_true c19
            clear c19
            replace H := Option.bind_eq_some_iff.mp H
            obtain ⟨t248, A200, H⟩ := H
            replace H : (if (rd l0_2 (rd l1 x8_1)) = t248 then (eyewitnessref22_Wrong.l0 k1 l1 l2 (wrap64 (x8_1 + 1)) l0_0 l0_1 l0_2) else (some (x8_1, true))) = some (r1, r2) := H
            have A20 := Aside0.mk A200
            clear A200
            by_cases c21 : (rd l0_2 (rd l1 x8_1)) = t248
            ·rw [if_pos c21] at H
             have c21b0 : ((rd l0_2 (rd l1 x8_1)) == t248) = true := beq_iff_eq.mpr c21
             have c21b1 : ((rd l0_2 (rd l1 x8_1)) != t248) = false := bne_eq_false_iff_eq.mpr c21
             clear c21
             have H' := Aside0.mk H
             clear H
             have p241 : 0 ≤ (x8_1 : Int) := of_decide_eq_true aS
             have q241 : x8_1 < (l1.length : Int) := of_decide_eq_true aS
             obtain ⟨ad241, e241, hx241_0⟩ := Kd.at_int HR1.out x8_1 p241 q241
             cases e241
             replace hx241_0 := pw_cell_below HB.out hx241_0
             replace p241 := eq_true p241
             replace q241 := eq_true q241
             try go_wp2
             have n0_ := Aside0.mk (blk_drew BK240.out)
             have n1_ := Aside0.mk (below_drew1 HB.out)
             clear BK240
             clear HB
             have BK240 := n0_
             have HB := n1_
             clear n0_ n1_
             have p244 : 0 ≤ ((rd l1 x8_1) : Int) := of_decide_eq_true aS
             have q244 : (rd l1 x8_1) < (l0_1.length : Int) := of_decide_eq_true aS
             obtain ⟨ad244, e244, hx244_0, hx244_1, hx244_2, hx244_3, hx244_4⟩ := at_T40 HR0_1.out (rd l1 x8_1) p244 q244
             have hw244_4 := hx244_4
             have hw244_3 := hx244_3
             have hw244_2 := hx244_2
             have hw244_1 := hx244_1
             have hw244_0 := hx244_0
             (try rw [← Nbq13.out] at hx244_2)
             (try rw [← Nbq13.out] at hw244_2)
             cases e244
             replace hx244_0 := pw_cell_below HB.out hx244_0
             replace hx244_1 := pw_cell_below HB.out hx244_1
             replace hx244_2 := pw_cell_below HB.out hx244_2
             replace hx244_3 := pw_cell_below HB.out hx244_3
             replace hx244_4 := pw_cell_below HB.out hx244_4
             replace p244 := eq_true p244
             replace q244 := eq_true q244
             have p245 : 0 ≤ ((rd l1 x8_1) : Int) := of_decide_eq_true aS
             have q245 : (rd l1 x8_1) < (l0_2.length : Int) := of_decide_eq_true aS
             obtain ⟨ad245, e245, hx245_0⟩ := Kd.at_int HR0_2.out (rd l1 x8_1) p245 q245
             have hw245_0 := hx245_0
             cases e245
             replace hx245_0 := pw_cell_below HB.out hx245_0
             replace p245 := eq_true p245
             replace q245 := eq_true q245
             have p247 : 0 ≤ ((rd l1 x8_1) : Int) := of_decide_eq_true aS
             have q247 : (rd l1 x8_1) < (l0_1.length : Int) := of_decide_eq_true aS
             obtain ⟨ad247, e247, hx247_0, hx247_1, hx247_2, hx247_3, hx247_4⟩ := at_T40 HR0_1.out (rd l1 x8_1) p247 q247
             have hw247_4 := hx247_4
             have hw247_3 := hx247_3
             have hw247_2 := hx247_2
             have hw247_1 := hx247_1
             have hw247_0 := hx247_0
             (try rw [← Nbq13.out] at hx247_2)
             (try rw [← Nbq13.out] at hw247_2)
             obtain rfl : ad244 = ad247 := (by injection e247)
             replace hx247_0 := pw_cell_below HB.out hx247_0
             replace hx247_1 := pw_cell_below HB.out hx247_1
             replace hx247_2 := pw_cell_below HB.out hx247_2
             replace hx247_3 := pw_cell_below HB.out hx247_3
             replace hx247_4 := pw_cell_below HB.out hx247_4
             replace p247 := eq_true p247
             replace q247 := eq_true q247
             refine start_ (n := 36) (S := fun w' => w'.cell? ⟨gb240, 0, none⟩ = some (.slice A0_0 l0_0.length c0_0) ∧ w'.cell? ⟨gb240, 1, none⟩ = some (.slice (some ad244) l0_1.length c0_1) ∧ w'.cell? ⟨gb240, 2, none⟩ = some (.slice (some ad245) l0_2.length c0_2) ∧ w'.cell? (ad244.add (((rd l1 x8_1)).toNat * 5)) = some (.int .i64 ((rd_T40 l0_1 (rd l1 x8_1)).f0)) ∧ w'.cell? ⟨(ad244.add (((rd l1 x8_1)).toNat * 5)).block, (ad244.add (((rd l1 x8_1)).toNat * 5)).off + 1, none⟩ = some (.int .i64 ((rd_T40 l0_1 (rd l1 x8_1)).f1)) ∧ w'.cell? ⟨(ad244.add (((rd l1 x8_1)).toNat * 5)).block, (ad244.add (((rd l1 x8_1)).toNat * 5)).off + 2, none⟩ = some (.bool false) ∧ w'.cell? ⟨(ad244.add (((rd l1 x8_1)).toNat * 5)).block, (ad244.add (((rd l1 x8_1)).toNat * 5)).off + 3, none⟩ = some (.int .i64 ((rd_T40 l0_1 (rd l1 x8_1)).f3)) ∧ w'.cell? ⟨(ad244.add (((rd l1 x8_1)).toNat * 5)).block, (ad244.add (((rd l1 x8_1)).toNat * 5)).off + 4, none⟩ = some (.int .i64 ((rd_T40 l0_1 (rd l1 x8_1)).f4)) ∧ w'.cell? (ad245.add ((rd l1 x8_1)).toNat) = some (.int .i64 (rd l0_2 (rd l1 x8_1))) ∧ w'.cell? (ad244.add (((rd l1 x8_1)).toNat * 5)) = some (.int .i64 ((rd_T40 l0_1 (rd l1 x8_1)).f0)) ∧ w'.cell? ⟨(ad244.add (((rd l1 x8_1)).toNat * 5)).block, (ad244.add (((rd l1 x8_1)).toNat * 5)).off + 1, none⟩ = some (.int .i64 ((rd_T40 l0_1 (rd l1 x8_1)).f1)) ∧ w'.cell? ⟨(ad244.add (((rd l1 x8_1)).toNat * 5)).block, (ad244.add (((rd l1 x8_1)).toNat * 5)).off + 2, none⟩ = some (.bool (false)) ∧ w'.cell? ⟨(ad244.add (((rd l1 x8_1)).toNat * 5)).block, (ad244.add (((rd l1 x8_1)).toNat * 5)).off + 3, none⟩ = some (.int .i64 ((rd_T40 l0_1 (rd l1 x8_1)).f3)) ∧ w'.cell? ⟨(ad244.add (((rd l1 x8_1)).toNat * 5)).block, (ad244.add (((rd l1 x8_1)).toNat * 5)).off + 4, none⟩ = some (.int .i64 ((rd_T40 l0_1 (rd l1 x8_1)).f4))) (ds := []) (bl 36 0) (by kernel_rfl) rfl rfl ⟨(blk_cell BK240.out 0).trans rfl, (blk_cell BK240.out 1).trans rfl, (blk_cell BK240.out 2).trans rfl, (pw_cell_below HB.out hw244_0), (pw_cell_below HB.out hw244_1), (pw_cell_below HB.out hw244_2), (pw_cell_below HB.out hw244_3), (pw_cell_below HB.out hw244_4), (pw_cell_below HB.out hw245_0), (pw_cell_below HB.out hw247_0), (pw_cell_below HB.out hw247_1), (pw_cell_below HB.out hw247_2), (pw_cell_below HB.out hw247_3), (pw_cell_below HB.out hw247_4)⟩ (fun hHeld => ?_); refine with_tabW eyewitnessref22_Wrong.tab5 eyewitnessref22_Wrong.bits5 (fun HT_ HW_ => ?_)
             generalize wr.drew = w22 at BK240 HB hx244_0 hx244_1 hx244_2 hx244_3 hx244_4 hx245_0 hx247_0 hx247_1 hx247_2 hx247_3 hx247_4 hHeld ⊢
             refine pX 1 21 (bl 36 2) HT_ rfl rfl kA (fun _ _ _ h => h) yA hA ?_
             refine pT 0 20 (bl 36 3) HT_ HW_ rfl rfl kA (fun _ _ _ h => h) yS hHeld hA ?_
             refine one_ (i := 2) (N := some 22) (bl 36 7) rfl rfl (one_of HT_.out (by kernel_rfl)) (by decide) (fun K hK => ?_)
             refine goes_ Try.func19 (by kernel_rfl) rfl #[.agg #[.slice A0_0 l0_0.length c0_0, .slice (some ad244) l0_1.length c0_1, .slice (some ad245) l0_2.length c0_2], .int .i64 (rd l1 x8_1)] (by rfl) rfl rfl (by (try simp only [List.map_toArray, List.map_cons, List.map_nil]); first | done | rfl | (simp only [List.length_drop, List.length_take]; rfl)) ?_
             with_reducible refine (eyewitnessref22_item.calls _ _ l0_0 _ _ l0_1 _ _ l0_2 (rd l1 x8_1) true _ ?side1 ?side2 ?side3 ?side4 ?side5 ?side6 A7.out).mono ?_
             (case side1 => exact tC HR0_0)
             (case side2 => exact HC0_0.out)
             (case side3 => exact tC HR0_1)
             (case side4 => exact HC0_1.out)
             (case side5 => exact tC HR0_2)
             (case side6 => exact HC0_2.out)
             rintro e w23 ⟨rfl, hb⟩
             refine ⟨_, rfl, ?_⟩
             have n0_ := Aside0.mk (blk_below (g := gb240) tB hb)
             have n1_ := Aside0.mk (below_step tH hb)
             clear BK240
             clear HB
             have BK240 := n0_
             have HB := n1_
             clear n0_ n1_
             (try clear hb)
             (try clear hb2)
             (try clear hk)
             (try clear hi)
             refine hK.out _ _ ⟨(blk_cell BK240.out 0).trans rfl, (blk_cell BK240.out 1).trans rfl, (blk_cell BK240.out 2).trans rfl, (pw_cell_below HB.out hw244_0), (pw_cell_below HB.out hw244_1), (pw_cell_below HB.out hw244_2), (pw_cell_below HB.out hw244_3), (pw_cell_below HB.out hw244_4), (pw_cell_below HB.out hw245_0), (pw_cell_below HB.out hw247_0), (pw_cell_below HB.out hw247_1), (pw_cell_below HB.out hw247_2), (pw_cell_below HB.out hw247_3), (pw_cell_below HB.out hw247_4)⟩ (fun hHeld => ?_)
             clear hK K
             refine norm_ (a' := ?_) ?_ ?_
             rotate_left
             ·show Act.put _ (some 22) _ = _
              simp only [Act.put, List.setIfInBounds_toArray, List.set_cons_zero, List.set_cons_succ, i64_w, i32_w]
              rfl
             refine pX 3 23 (bl 36 15) HT_ rfl rfl kA (fun _ _ _ h => h) yA hA ?_
             refine pX 4 24 (bl 36 31) HT_ rfl rfl kA (fun _ _ _ h => h) yA hA ?_
             refine pX 5 25 (bl 36 63) HT_ rfl rfl kA (fun _ _ _ h => h) yA hA ?_
             refine one_ (i := 6) (N := some 26) (bl 36 127) rfl rfl (one_of HT_.out (by kernel_rfl)) (by decide) (fun K hK => ?_)
             refine goes_ Try.func20 (by kernel_rfl) rfl #[.slice A2 l2.length c2, .int .i64 (rd l1 x8_1)] (by rfl) rfl rfl (by (try simp only [List.map_toArray, List.map_cons, List.map_nil]); first | done | rfl | (simp only [List.length_drop, List.length_take]; rfl)) ?_
             with_reducible refine (eyewitnessref22_has.calls k1 _ _ l2 (rd l1 x8_1) true _ ?side1 ?side2 A9.out).mono ?_
             (case side1 => exact tC HR2)
             (case side2 => exact HC2.out)
             rintro e w' ⟨rfl, ⟨nd, rfl⟩⟩
             refine ⟨_, rfl, ?_⟩
             obtain ⟨i024, hi024, _, hsz24, _⟩ := info_parts info3
             obtain ⟨hcut24, hA24, hC24⟩ := print_take_of (P := Try.prog) (Value.int .i64) 0 23 3 .i64 Try.underlying23 hi024 hsz24 (some ad241) c1 l1 x8_1 (of_decide_eq_true aS) (of_decide_eq_true aS) HC1.out
             have HR246 := Aside0.mk (Kd.C_of_reads (h1 := fun _ => rfl) (hA24 _ (Kd.reads_of_C HR1.out)))
             have HC246 := Aside0.mk hC24
             clear hA24 hC24 hi024 hsz24
             refine hK.out _ _ ⟨(blk_cell BK240.out 0).trans rfl, (blk_cell BK240.out 1).trans rfl, (blk_cell BK240.out 2).trans rfl, (pw_cell_below HB.out hw244_0), (pw_cell_below HB.out hw244_1), (pw_cell_below HB.out hw244_2), (pw_cell_below HB.out hw244_3), (pw_cell_below HB.out hw244_4), (pw_cell_below HB.out hw245_0), (pw_cell_below HB.out hw247_0), (pw_cell_below HB.out hw247_1), (pw_cell_below HB.out hw247_2), (pw_cell_below HB.out hw247_3), (pw_cell_below HB.out hw247_4)⟩ (fun hHeld => ?_)
             clear hK K
             refine norm_ (a' := ?_) ?_ ?_
             rotate_left
             ·show Act.put _ (some 26) _ = _
              simp only [Act.put, List.setIfInBounds_toArray, List.set_cons_zero, List.set_cons_succ, i64_w, i32_w]
              rfl
             refine pX 7 27 (bl 36 255) HT_ rfl rfl kA (fun _ _ _ h => h) yA hA ?_
             refine pX 8 28 (bl 36 511) HT_ rfl rfl kA (fun _ _ _ h => h) yA hA ?_
             refine pX 9 29 (bl 36 1023) HT_ rfl rfl kA (fun _ _ _ h => h) yA hA ?_
             refine pX 11 31 (bl 36 3071) HT_ rfl rfl kA (fun _ _ _ h => h) yA hA ?_
             refine pT 10 30 (bl 36 4095) HT_ HW_ rfl rfl kA (fun _ _ _ h => h) yS hHeld hA ?_
             refine pX 12 32 (bl 36 8191) HT_ rfl rfl kA (fun _ _ _ h => h) yA hA ?_
             refine pX 13 33 (bl 36 16383) HT_ rfl rfl kA (fun _ _ _ h => h) yA hA ?_
             refine pT 14 34 (bl 36 32767) HT_ HW_ rfl rfl kA (fun _ _ _ h => h) yS hHeld hA ?_
             refine pX 15 35 (bl 36 65535) HT_ rfl rfl kA (fun _ _ _ h => h) yA hA ?_
             refine pX 16 36 (bl 36 131071) HT_ rfl rfl kA (fun _ _ _ h => h) yA hA ?_
             refine pX 17 37 (bl 36 262143) HT_ rfl rfl kA (fun _ _ _ h => h) yA hA ?_
             refine pX 18 38 (bl 36 524287) HT_ rfl rfl kA (fun _ _ _ h => h) yA hA ?_
             refine pX 20 40 (bl 36 1572863) HT_ rfl rfl kA (fun _ _ _ h => h) yA hA ?_
             refine pX 24 44 (bl 36 18350079) HT_ rfl rfl kA (fun _ _ _ h => h) yA hA ?_
             refine pX 25 45 (bl 36 51904511) HT_ rfl rfl kA (fun _ _ _ h => h) yA hA ?_
             refine pX 26 46 (bl 36 119013375) HT_ rfl rfl kA (fun _ _ _ h => h) yA hA ?_
             refine pX 27 47 (bl 36 253231103) HT_ rfl rfl kA (fun _ _ _ h => h) yA hA ?_
             refine pX 29 49 (bl 36 790102015) HT_ rfl rfl kA (fun _ _ _ h => h) yA hA ?_
             refine pT 19 39 (bl 36 790626303) HT_ HW_ rfl rfl kA (fun _ _ _ h => h) yS hHeld hA ?_
             refine pX 21 41 (bl 36 792723455) HT_ rfl rfl kA (fun _ _ _ h => h) yA hA ?_
             refine pT 22 42 (bl 36 796917759) HT_ HW_ rfl rfl kA (fun _ _ _ h => h) yS hHeld hA ?_
             refine pT 23 43 (bl 36 805306367) HT_ HW_ rfl rfl kA (fun _ _ _ h => h) yS hHeld hA ?_
             refine pT 28 48 (bl 36 1073741823) HT_ HW_ rfl rfl kA (fun _ _ _ h => h) yS hHeld hA ?_
             refine pX 30 50 (bl 36 2147483647) HT_ rfl rfl kA (fun _ _ _ h => h) yA hA ?_
             refine pX 31 51 (bl 36 4294967295) HT_ rfl rfl kA (fun _ _ _ h => h) yA hA ?_
             refine pT 32 52 (bl 36 8589934591) HT_ HW_ rfl rfl kA (fun _ _ _ h => h) yS hHeld hA ?_
             refine one_ (i := 33) (N := some 53) (bl 36 17179869183) rfl rfl (one_of HT_.out (by kernel_rfl)) (by decide) (fun K hK => ?_)
             refine goes_ Try.func21 (by kernel_rfl) rfl #[.agg #[.slice A0_0 l0_0.length c0_0, .slice (some ad244) l0_1.length c0_1, .slice (some ad245) l0_2.length c0_2], .slice (some ad241) (l1.take (x8_1 : Int).toNat).length c1, .int .i64 ((rd_T40 l0_1 (rd l1 x8_1)).f3)] (by rfl) rfl rfl (by (try simp only [List.map_toArray, List.map_cons, List.map_nil]); first | done | (rw [show (l1.take (x8_1 : Int).toNat).length = x8_1.toNat from (by rw [List.length_take]; have h_ : (x8_1 : Int) ≤ (l1.length : Int) := of_decide_eq_true aS; omega)] <;> rfl) | rfl | (simp only [List.length_drop, List.length_take]; rfl)) ?_
             with_reducible refine (eyewitnessref22_last.calls k1 _ _ l0_0 _ _ l0_1 _ _ l0_2 _ _ (l1.take (x8_1 : Int).toNat) ((rd_T40 l0_1 (rd l1 x8_1)).f3) t248 _ ?side1 ?side2 ?side3 ?side4 ?side5 ?side6 ?side7 ?side8 A20.out).mono ?_
             (case side1 => repeat (first | exact (Kd.C_below HR0_0.out tH) | (with_reducible refine Kd.C_alloc ?_ _) | (with_reducible refine Kd.C_drewN ?_ _) | (with_reducible refine Kd.C_drew ?_)))
             (case side2 => exact HC0_0.out)
             (case side3 => repeat (first | exact (Kd.C_below HR0_1.out tH) | (with_reducible refine Kd.C_alloc ?_ _) | (with_reducible refine Kd.C_drewN ?_ _) | (with_reducible refine Kd.C_drew ?_)))
             (case side4 => exact HC0_1.out)
             (case side5 => repeat (first | exact (Kd.C_below HR0_2.out tH) | (with_reducible refine Kd.C_alloc ?_ _) | (with_reducible refine Kd.C_drewN ?_ _) | (with_reducible refine Kd.C_drew ?_)))
             (case side6 => exact HC0_2.out)
             (case side7 => repeat (first | exact (Kd.C_below HR246.out tH) | (with_reducible refine Kd.C_alloc ?_ _) | (with_reducible refine Kd.C_drewN ?_ _) | (with_reducible refine Kd.C_drew ?_)))
             (case side8 => exact HC246.out)
             rintro e w25 ⟨rfl, hb⟩
             refine ⟨_, rfl, ?_⟩
             have n0_ := Aside0.mk (blk_below (g := gb240) tB hb)
             have n1_ := Aside0.mk (below_step tH hb)
             clear BK240
             clear HB
             have BK240 := n0_
             have HB := n1_
             clear n0_ n1_
             (try clear hb)
             (try clear hb2)
             (try clear hk)
             (try clear hi)
             refine hK.out _ _ ⟨(blk_cell BK240.out 0).trans rfl, (blk_cell BK240.out 1).trans rfl, (blk_cell BK240.out 2).trans rfl, (pw_cell_below HB.out hw244_0), (pw_cell_below HB.out hw244_1), (pw_cell_below HB.out hw244_2), (pw_cell_below HB.out hw244_3), (pw_cell_below HB.out hw244_4), (pw_cell_below HB.out hw245_0), (pw_cell_below HB.out hw247_0), (pw_cell_below HB.out hw247_1), (pw_cell_below HB.out hw247_2), (pw_cell_below HB.out hw247_3), (pw_cell_below HB.out hw247_4)⟩ (fun hHeld => ?_)
             clear hK K
             refine norm_ (a' := ?_) ?_ ?_
             rotate_left
             ·show Act.put _ (some 53) _ = _
              simp only [Act.put, List.setIfInBounds_toArray, List.set_cons_zero, List.set_cons_succ, i64_w, i32_w]
              rfl
             refine pX 34 54 (bl 36 34359738367) HT_ rfl rfl kA (fun _ _ _ h => h) yA hA ?_
             refine pX 35 55 (bl 36 68719476735) HT_ rfl rfl kA (fun _ _ _ h => h) yA hA ?_
             refine done_ (done_of HT_.out (by kernel_rfl)) ?_
             try go_wp2
             go_roundg k1
             case measure => have := HK1.out; omega
             case rel => exact ⟨(wrap64 (x8_1 + 1)), (by first | rfl | (simp; done) | (simp [*]; done)), H', ⟨by have := HK1.out; omega⟩, ⟨by (with_reducible repeat (first | refine blk_drewN ?_ _ | refine blk_drew ?_ | refine blk_alloc ?_ _)); exact BK240.out⟩, ⟨tH⟩⟩
            ·rw [if_neg c21] at H
             have c21b0 : ((rd l0_2 (rd l1 x8_1)) == t248) = false := beq_eq_false_iff_ne.mpr c21
             have c21b1 : ((rd l0_2 (rd l1 x8_1)) != t248) = true := bne_iff_ne.mpr c21
             simp only [Option.some.injEq, Prod.mk.injEq] at H
             obtain ⟨rfl, rfl⟩ := H
             have p241 : 0 ≤ (x8_1 : Int) := of_decide_eq_true aS
             have q241 : x8_1 < (l1.length : Int) := of_decide_eq_true aS
             obtain ⟨ad241, e241, hx241_0⟩ := Kd.at_int HR1.out x8_1 p241 q241
             cases e241
             replace hx241_0 := pw_cell_below HB.out hx241_0
             replace p241 := eq_true p241
             replace q241 := eq_true q241
             try go_wp2
             have n0_ := Aside0.mk (blk_drew BK240.out)
             have n1_ := Aside0.mk (below_drew1 HB.out)
             clear BK240
             clear HB
             have BK240 := n0_
             have HB := n1_
             clear n0_ n1_
             have p244 : 0 ≤ ((rd l1 x8_1) : Int) := of_decide_eq_true aS
             have q244 : (rd l1 x8_1) < (l0_1.length : Int) := of_decide_eq_true aS
             obtain ⟨ad244, e244, hx244_0, hx244_1, hx244_2, hx244_3, hx244_4⟩ := at_T40 HR0_1.out (rd l1 x8_1) p244 q244
             have hw244_4 := hx244_4
             have hw244_3 := hx244_3
             have hw244_2 := hx244_2
             have hw244_1 := hx244_1
             have hw244_0 := hx244_0
             (try rw [← Nbq13.out] at hx244_2)
             (try rw [← Nbq13.out] at hw244_2)
             cases e244
             replace hx244_0 := pw_cell_below HB.out hx244_0
             replace hx244_1 := pw_cell_below HB.out hx244_1
             replace hx244_2 := pw_cell_below HB.out hx244_2
             replace hx244_3 := pw_cell_below HB.out hx244_3
             replace hx244_4 := pw_cell_below HB.out hx244_4
             replace p244 := eq_true p244
             replace q244 := eq_true q244
             have p245 : 0 ≤ ((rd l1 x8_1) : Int) := of_decide_eq_true aS
             have q245 : (rd l1 x8_1) < (l0_2.length : Int) := of_decide_eq_true aS
             obtain ⟨ad245, e245, hx245_0⟩ := Kd.at_int HR0_2.out (rd l1 x8_1) p245 q245
             have hw245_0 := hx245_0
             cases e245
             replace hx245_0 := pw_cell_below HB.out hx245_0
             replace p245 := eq_true p245
             replace q245 := eq_true q245
             have p247 : 0 ≤ ((rd l1 x8_1) : Int) := of_decide_eq_true aS
             have q247 : (rd l1 x8_1) < (l0_1.length : Int) := of_decide_eq_true aS
             obtain ⟨ad247, e247, hx247_0, hx247_1, hx247_2, hx247_3, hx247_4⟩ := at_T40 HR0_1.out (rd l1 x8_1) p247 q247
             have hw247_4 := hx247_4
             have hw247_3 := hx247_3
             have hw247_2 := hx247_2
             have hw247_1 := hx247_1
             have hw247_0 := hx247_0
             (try rw [← Nbq13.out] at hx247_2)
             (try rw [← Nbq13.out] at hw247_2)
             obtain rfl : ad244 = ad247 := (by injection e247)
             replace hx247_0 := pw_cell_below HB.out hx247_0
             replace hx247_1 := pw_cell_below HB.out hx247_1
             replace hx247_2 := pw_cell_below HB.out hx247_2
             replace hx247_3 := pw_cell_below HB.out hx247_3
             replace hx247_4 := pw_cell_below HB.out hx247_4
             replace p247 := eq_true p247
             replace q247 := eq_true q247
             refine start_ (n := 36) (S := fun w' => w'.cell? ⟨gb240, 0, none⟩ = some (.slice A0_0 l0_0.length c0_0) ∧ w'.cell? ⟨gb240, 1, none⟩ = some (.slice (some ad244) l0_1.length c0_1) ∧ w'.cell? ⟨gb240, 2, none⟩ = some (.slice (some ad245) l0_2.length c0_2) ∧ w'.cell? (ad244.add (((rd l1 x8_1)).toNat * 5)) = some (.int .i64 ((rd_T40 l0_1 (rd l1 x8_1)).f0)) ∧ w'.cell? ⟨(ad244.add (((rd l1 x8_1)).toNat * 5)).block, (ad244.add (((rd l1 x8_1)).toNat * 5)).off + 1, none⟩ = some (.int .i64 ((rd_T40 l0_1 (rd l1 x8_1)).f1)) ∧ w'.cell? ⟨(ad244.add (((rd l1 x8_1)).toNat * 5)).block, (ad244.add (((rd l1 x8_1)).toNat * 5)).off + 2, none⟩ = some (.bool false) ∧ w'.cell? ⟨(ad244.add (((rd l1 x8_1)).toNat * 5)).block, (ad244.add (((rd l1 x8_1)).toNat * 5)).off + 3, none⟩ = some (.int .i64 ((rd_T40 l0_1 (rd l1 x8_1)).f3)) ∧ w'.cell? ⟨(ad244.add (((rd l1 x8_1)).toNat * 5)).block, (ad244.add (((rd l1 x8_1)).toNat * 5)).off + 4, none⟩ = some (.int .i64 ((rd_T40 l0_1 (rd l1 x8_1)).f4)) ∧ w'.cell? (ad245.add ((rd l1 x8_1)).toNat) = some (.int .i64 (rd l0_2 (rd l1 x8_1))) ∧ w'.cell? (ad244.add (((rd l1 x8_1)).toNat * 5)) = some (.int .i64 ((rd_T40 l0_1 (rd l1 x8_1)).f0)) ∧ w'.cell? ⟨(ad244.add (((rd l1 x8_1)).toNat * 5)).block, (ad244.add (((rd l1 x8_1)).toNat * 5)).off + 1, none⟩ = some (.int .i64 ((rd_T40 l0_1 (rd l1 x8_1)).f1)) ∧ w'.cell? ⟨(ad244.add (((rd l1 x8_1)).toNat * 5)).block, (ad244.add (((rd l1 x8_1)).toNat * 5)).off + 2, none⟩ = some (.bool (false)) ∧ w'.cell? ⟨(ad244.add (((rd l1 x8_1)).toNat * 5)).block, (ad244.add (((rd l1 x8_1)).toNat * 5)).off + 3, none⟩ = some (.int .i64 ((rd_T40 l0_1 (rd l1 x8_1)).f3)) ∧ w'.cell? ⟨(ad244.add (((rd l1 x8_1)).toNat * 5)).block, (ad244.add (((rd l1 x8_1)).toNat * 5)).off + 4, none⟩ = some (.int .i64 ((rd_T40 l0_1 (rd l1 x8_1)).f4))) (ds := []) (bl 36 0) (by kernel_rfl) rfl rfl ⟨(blk_cell BK240.out 0).trans rfl, (blk_cell BK240.out 1).trans rfl, (blk_cell BK240.out 2).trans rfl, (pw_cell_below HB.out hw244_0), (pw_cell_below HB.out hw244_1), (pw_cell_below HB.out hw244_2), (pw_cell_below HB.out hw244_3), (pw_cell_below HB.out hw244_4), (pw_cell_below HB.out hw245_0), (pw_cell_below HB.out hw247_0), (pw_cell_below HB.out hw247_1), (pw_cell_below HB.out hw247_2), (pw_cell_below HB.out hw247_3), (pw_cell_below HB.out hw247_4)⟩ (fun hHeld => ?_); refine with_tabW eyewitnessref22_Wrong.tab5 eyewitnessref22_Wrong.bits5 (fun HT_ HW_ => ?_)
             generalize wr.drew = w26 at BK240 HB hx244_0 hx244_1 hx244_2 hx244_3 hx244_4 hx245_0 hx247_0 hx247_1 hx247_2 hx247_3 hx247_4 hHeld ⊢
             refine pX 1 21 (bl 36 2) HT_ rfl rfl kA (fun _ _ _ h => h) yA hA ?_
             refine pT 0 20 (bl 36 3) HT_ HW_ rfl rfl kA (fun _ _ _ h => h) yS hHeld hA ?_
             refine one_ (i := 2) (N := some 22) (bl 36 7) rfl rfl (one_of HT_.out (by kernel_rfl)) (by decide) (fun K hK => ?_)
             refine goes_ Try.func19 (by kernel_rfl) rfl #[.agg #[.slice A0_0 l0_0.length c0_0, .slice (some ad244) l0_1.length c0_1, .slice (some ad245) l0_2.length c0_2], .int .i64 (rd l1 x8_1)] (by rfl) rfl rfl (by (try simp only [List.map_toArray, List.map_cons, List.map_nil]); first | done | rfl | (simp only [List.length_drop, List.length_take]; rfl)) ?_
             with_reducible refine (eyewitnessref22_item.calls _ _ l0_0 _ _ l0_1 _ _ l0_2 (rd l1 x8_1) true _ ?side1 ?side2 ?side3 ?side4 ?side5 ?side6 A7.out).mono ?_
             (case side1 => exact tC HR0_0)
             (case side2 => exact HC0_0.out)
             (case side3 => exact tC HR0_1)
             (case side4 => exact HC0_1.out)
             (case side5 => exact tC HR0_2)
             (case side6 => exact HC0_2.out)
             rintro e w27 ⟨rfl, hb⟩
             refine ⟨_, rfl, ?_⟩
             have n0_ := Aside0.mk (blk_below (g := gb240) tB hb)
             have n1_ := Aside0.mk (below_step tH hb)
             clear BK240
             clear HB
             have BK240 := n0_
             have HB := n1_
             clear n0_ n1_
             (try clear hb)
             (try clear hb2)
             (try clear hk)
             (try clear hi)
             refine hK.out _ _ ⟨(blk_cell BK240.out 0).trans rfl, (blk_cell BK240.out 1).trans rfl, (blk_cell BK240.out 2).trans rfl, (pw_cell_below HB.out hw244_0), (pw_cell_below HB.out hw244_1), (pw_cell_below HB.out hw244_2), (pw_cell_below HB.out hw244_3), (pw_cell_below HB.out hw244_4), (pw_cell_below HB.out hw245_0), (pw_cell_below HB.out hw247_0), (pw_cell_below HB.out hw247_1), (pw_cell_below HB.out hw247_2), (pw_cell_below HB.out hw247_3), (pw_cell_below HB.out hw247_4)⟩ (fun hHeld => ?_)
             clear hK K
             refine norm_ (a' := ?_) ?_ ?_
             rotate_left
             ·show Act.put _ (some 22) _ = _
              simp only [Act.put, List.setIfInBounds_toArray, List.set_cons_zero, List.set_cons_succ, i64_w, i32_w]
              rfl
             refine pX 3 23 (bl 36 15) HT_ rfl rfl kA (fun _ _ _ h => h) yA hA ?_
             refine pX 4 24 (bl 36 31) HT_ rfl rfl kA (fun _ _ _ h => h) yA hA ?_
             refine pX 5 25 (bl 36 63) HT_ rfl rfl kA (fun _ _ _ h => h) yA hA ?_
             refine one_ (i := 6) (N := some 26) (bl 36 127) rfl rfl (one_of HT_.out (by kernel_rfl)) (by decide) (fun K hK => ?_)
             refine goes_ Try.func20 (by kernel_rfl) rfl #[.slice A2 l2.length c2, .int .i64 (rd l1 x8_1)] (by rfl) rfl rfl (by (try simp only [List.map_toArray, List.map_cons, List.map_nil]); first | done | rfl | (simp only [List.length_drop, List.length_take]; rfl)) ?_
             with_reducible refine (eyewitnessref22_has.calls k1 _ _ l2 (rd l1 x8_1) true _ ?side1 ?side2 A9.out).mono ?_
             (case side1 => exact tC HR2)
             (case side2 => exact HC2.out)
             rintro e w' ⟨rfl, ⟨nd, rfl⟩⟩
             refine ⟨_, rfl, ?_⟩
             obtain ⟨i028, hi028, _, hsz28, _⟩ := info_parts info3
             obtain ⟨hcut28, hA28, hC28⟩ := print_take_of (P := Try.prog) (Value.int .i64) 0 23 3 .i64 Try.underlying23 hi028 hsz28 (some ad241) c1 l1 x8_1 (of_decide_eq_true aS) (of_decide_eq_true aS) HC1.out
             have HR246 := Aside0.mk (Kd.C_of_reads (h1 := fun _ => rfl) (hA28 _ (Kd.reads_of_C HR1.out)))
             have HC246 := Aside0.mk hC28
             clear hA28 hC28 hi028 hsz28
             refine hK.out _ _ ⟨(blk_cell BK240.out 0).trans rfl, (blk_cell BK240.out 1).trans rfl, (blk_cell BK240.out 2).trans rfl, (pw_cell_below HB.out hw244_0), (pw_cell_below HB.out hw244_1), (pw_cell_below HB.out hw244_2), (pw_cell_below HB.out hw244_3), (pw_cell_below HB.out hw244_4), (pw_cell_below HB.out hw245_0), (pw_cell_below HB.out hw247_0), (pw_cell_below HB.out hw247_1), (pw_cell_below HB.out hw247_2), (pw_cell_below HB.out hw247_3), (pw_cell_below HB.out hw247_4)⟩ (fun hHeld => ?_)
             clear hK K
             refine norm_ (a' := ?_) ?_ ?_
             rotate_left
             ·show Act.put _ (some 26) _ = _
              simp only [Act.put, List.setIfInBounds_toArray, List.set_cons_zero, List.set_cons_succ, i64_w, i32_w]
              rfl
             refine pX 7 27 (bl 36 255) HT_ rfl rfl kA (fun _ _ _ h => h) yA hA ?_
             refine pX 8 28 (bl 36 511) HT_ rfl rfl kA (fun _ _ _ h => h) yA hA ?_
             refine pX 9 29 (bl 36 1023) HT_ rfl rfl kA (fun _ _ _ h => h) yA hA ?_
             refine pX 11 31 (bl 36 3071) HT_ rfl rfl kA (fun _ _ _ h => h) yA hA ?_
             refine pT 10 30 (bl 36 4095) HT_ HW_ rfl rfl kA (fun _ _ _ h => h) yS hHeld hA ?_
             refine pX 12 32 (bl 36 8191) HT_ rfl rfl kA (fun _ _ _ h => h) yA hA ?_
             refine pX 13 33 (bl 36 16383) HT_ rfl rfl kA (fun _ _ _ h => h) yA hA ?_
             refine pT 14 34 (bl 36 32767) HT_ HW_ rfl rfl kA (fun _ _ _ h => h) yS hHeld hA ?_
             refine pX 15 35 (bl 36 65535) HT_ rfl rfl kA (fun _ _ _ h => h) yA hA ?_
             refine pX 16 36 (bl 36 131071) HT_ rfl rfl kA (fun _ _ _ h => h) yA hA ?_
             refine pX 17 37 (bl 36 262143) HT_ rfl rfl kA (fun _ _ _ h => h) yA hA ?_
             refine pX 18 38 (bl 36 524287) HT_ rfl rfl kA (fun _ _ _ h => h) yA hA ?_
             refine pX 20 40 (bl 36 1572863) HT_ rfl rfl kA (fun _ _ _ h => h) yA hA ?_
             refine pX 24 44 (bl 36 18350079) HT_ rfl rfl kA (fun _ _ _ h => h) yA hA ?_
             refine pX 25 45 (bl 36 51904511) HT_ rfl rfl kA (fun _ _ _ h => h) yA hA ?_
             refine pX 26 46 (bl 36 119013375) HT_ rfl rfl kA (fun _ _ _ h => h) yA hA ?_
             refine pX 27 47 (bl 36 253231103) HT_ rfl rfl kA (fun _ _ _ h => h) yA hA ?_
             refine pX 29 49 (bl 36 790102015) HT_ rfl rfl kA (fun _ _ _ h => h) yA hA ?_
             refine pT 19 39 (bl 36 790626303) HT_ HW_ rfl rfl kA (fun _ _ _ h => h) yS hHeld hA ?_
             refine pX 21 41 (bl 36 792723455) HT_ rfl rfl kA (fun _ _ _ h => h) yA hA ?_
             refine pT 22 42 (bl 36 796917759) HT_ HW_ rfl rfl kA (fun _ _ _ h => h) yS hHeld hA ?_
             refine pT 23 43 (bl 36 805306367) HT_ HW_ rfl rfl kA (fun _ _ _ h => h) yS hHeld hA ?_
             refine pT 28 48 (bl 36 1073741823) HT_ HW_ rfl rfl kA (fun _ _ _ h => h) yS hHeld hA ?_
             refine pX 30 50 (bl 36 2147483647) HT_ rfl rfl kA (fun _ _ _ h => h) yA hA ?_
             refine pX 31 51 (bl 36 4294967295) HT_ rfl rfl kA (fun _ _ _ h => h) yA hA ?_
             refine pT 32 52 (bl 36 8589934591) HT_ HW_ rfl rfl kA (fun _ _ _ h => h) yS hHeld hA ?_
             refine one_ (i := 33) (N := some 53) (bl 36 17179869183) rfl rfl (one_of HT_.out (by kernel_rfl)) (by decide) (fun K hK => ?_)
             refine goes_ Try.func21 (by kernel_rfl) rfl #[.agg #[.slice A0_0 l0_0.length c0_0, .slice (some ad244) l0_1.length c0_1, .slice (some ad245) l0_2.length c0_2], .slice (some ad241) (l1.take (x8_1 : Int).toNat).length c1, .int .i64 ((rd_T40 l0_1 (rd l1 x8_1)).f3)] (by rfl) rfl rfl (by (try simp only [List.map_toArray, List.map_cons, List.map_nil]); first | done | (rw [show (l1.take (x8_1 : Int).toNat).length = x8_1.toNat from (by rw [List.length_take]; have h_ : (x8_1 : Int) ≤ (l1.length : Int) := of_decide_eq_true aS; omega)] <;> rfl) | rfl | (simp only [List.length_drop, List.length_take]; rfl)) ?_
             with_reducible refine (eyewitnessref22_last.calls k1 _ _ l0_0 _ _ l0_1 _ _ l0_2 _ _ (l1.take (x8_1 : Int).toNat) ((rd_T40 l0_1 (rd l1 x8_1)).f3) t248 _ ?side1 ?side2 ?side3 ?side4 ?side5 ?side6 ?side7 ?side8 A20.out).mono ?_
             (case side1 => repeat (first | exact (Kd.C_below HR0_0.out tH) | (with_reducible refine Kd.C_alloc ?_ _) | (with_reducible refine Kd.C_drewN ?_ _) | (with_reducible refine Kd.C_drew ?_)))
             (case side2 => exact HC0_0.out)
             (case side3 => repeat (first | exact (Kd.C_below HR0_1.out tH) | (with_reducible refine Kd.C_alloc ?_ _) | (with_reducible refine Kd.C_drewN ?_ _) | (with_reducible refine Kd.C_drew ?_)))
             (case side4 => exact HC0_1.out)
             (case side5 => repeat (first | exact (Kd.C_below HR0_2.out tH) | (with_reducible refine Kd.C_alloc ?_ _) | (with_reducible refine Kd.C_drewN ?_ _) | (with_reducible refine Kd.C_drew ?_)))
             (case side6 => exact HC0_2.out)
             (case side7 => repeat (first | exact (Kd.C_below HR246.out tH) | (with_reducible refine Kd.C_alloc ?_ _) | (with_reducible refine Kd.C_drewN ?_ _) | (with_reducible refine Kd.C_drew ?_)))
             (case side8 => exact HC246.out)
             rintro e w29 ⟨rfl, hb⟩
             refine ⟨_, rfl, ?_⟩
             have n0_ := Aside0.mk (blk_below (g := gb240) tB hb)
             have n1_ := Aside0.mk (below_step tH hb)
             clear BK240
             clear HB
             have BK240 := n0_
             have HB := n1_
             clear n0_ n1_
             (try clear hb)
             (try clear hb2)
             (try clear hk)
             (try clear hi)
             refine hK.out _ _ ⟨(blk_cell BK240.out 0).trans rfl, (blk_cell BK240.out 1).trans rfl, (blk_cell BK240.out 2).trans rfl, (pw_cell_below HB.out hw244_0), (pw_cell_below HB.out hw244_1), (pw_cell_below HB.out hw244_2), (pw_cell_below HB.out hw244_3), (pw_cell_below HB.out hw244_4), (pw_cell_below HB.out hw245_0), (pw_cell_below HB.out hw247_0), (pw_cell_below HB.out hw247_1), (pw_cell_below HB.out hw247_2), (pw_cell_below HB.out hw247_3), (pw_cell_below HB.out hw247_4)⟩ (fun hHeld => ?_)
             clear hK K
             refine norm_ (a' := ?_) ?_ ?_
             rotate_left
             ·show Act.put _ (some 53) _ = _
              simp only [Act.put, List.setIfInBounds_toArray, List.set_cons_zero, List.set_cons_succ, i64_w, i32_w]
              rfl
             refine pX 34 54 (bl 36 34359738367) HT_ rfl rfl kA (fun _ _ _ h => h) yA hA ?_
             refine pX 35 55 (bl 36 68719476735) HT_ rfl rfl kA (fun _ _ _ h => h) yA hA ?_
             refine done_ (done_of HT_.out (by kernel_rfl)) ?_
             try go_wp2
             go_ret2
             exact ⟨by first | rfl | (simp [errW_none, errW_some] <;> rfl) | (simp [*, errW_none, errW_some] <;> rfl), tH⟩
           ·rw [if_neg c19] at H
            exact absurd H (by simp)
          ·rw [if_neg c17] at H
           exact absurd H (by simp)
        ·rw [if_neg c12] at H
         exact absurd H (by simp)
       ·rw [if_neg c11] at H
        exact absurd H (by simp)
      ·replace c10 := Bool.eq_false_iff.mpr c10
       subst c10
       have H1 : (eyewitnessref22_Wrong.l0 k1 l1 l2 (wrap64 (x8_1 + 1)) l0_0 l0_1 l0_2) = some (r1, r2) := by rw [if_neg (show ¬ (false = true) by decide)] at H; exact H
       clear H
       have H := H1
       clear H1
       have H' := Aside0.mk H
       clear H
       have p241 : 0 ≤ (x8_1 : Int) := of_decide_eq_true aS
       have q241 : x8_1 < (l1.length : Int) := of_decide_eq_true aS
       obtain ⟨ad241, e241, hx241_0⟩ := Kd.at_int HR1.out x8_1 p241 q241
       cases e241
       replace hx241_0 := pw_cell_below HB.out hx241_0
       replace p241 := eq_true p241
       replace q241 := eq_true q241
       try go_wp2
       have n0_ := Aside0.mk (blk_drew BK240.out)
       have n1_ := Aside0.mk (below_drew1 HB.out)
       clear BK240
       clear HB
       have BK240 := n0_
       have HB := n1_
       clear n0_ n1_
       refine start_ (n := 36) (S := fun w' => w'.cell? ⟨gb240, 0, none⟩ = some (.slice A0_0 l0_0.length c0_0) ∧ w'.cell? ⟨gb240, 1, none⟩ = some (.slice A0_1 l0_1.length c0_1) ∧ w'.cell? ⟨gb240, 2, none⟩ = some (.slice A0_2 l0_2.length c0_2)) (ds := []) (bl 36 0) (by kernel_rfl) rfl rfl ⟨(blk_cell BK240.out 0).trans rfl, (blk_cell BK240.out 1).trans rfl, (blk_cell BK240.out 2).trans rfl⟩ (fun hHeld => ?_); refine with_tabW eyewitnessref22_Wrong.tab5 eyewitnessref22_Wrong.bits5 (fun HT_ HW_ => ?_)
       generalize wr.drew = w30 at BK240 HB hHeld ⊢
       refine pX 1 21 (bl 36 2) HT_ rfl rfl kA (fun _ _ _ h => h) yA hA ?_
       refine pT 0 20 (bl 36 3) HT_ HW_ rfl rfl kA (fun _ _ _ h => h) yS hHeld hA ?_
       refine one_ (i := 2) (N := some 22) (bl 36 7) rfl rfl (one_of HT_.out (by kernel_rfl)) (by decide) (fun K hK => ?_)
       refine goes_ Try.func19 (by kernel_rfl) rfl #[.agg #[.slice A0_0 l0_0.length c0_0, .slice A0_1 l0_1.length c0_1, .slice A0_2 l0_2.length c0_2], .int .i64 (rd l1 x8_1)] (by rfl) rfl rfl (by (try simp only [List.map_toArray, List.map_cons, List.map_nil]); first | done | rfl | (simp only [List.length_drop, List.length_take]; rfl)) ?_
       with_reducible refine (eyewitnessref22_item.calls _ _ l0_0 _ _ l0_1 _ _ l0_2 (rd l1 x8_1) true _ ?side1 ?side2 ?side3 ?side4 ?side5 ?side6 A7.out).mono ?_
       (case side1 => exact tC HR0_0)
       (case side2 => exact HC0_0.out)
       (case side3 => exact tC HR0_1)
       (case side4 => exact HC0_1.out)
       (case side5 => exact tC HR0_2)
       (case side6 => exact HC0_2.out)
       rintro e w31 ⟨rfl, hb⟩
       refine ⟨_, rfl, ?_⟩
       have n0_ := Aside0.mk (blk_below (g := gb240) tB hb)
       have n1_ := Aside0.mk (below_step tH hb)
       clear BK240
       clear HB
       have BK240 := n0_
       have HB := n1_
       clear n0_ n1_
       (try clear hb)
       (try clear hb2)
       (try clear hk)
       (try clear hi)
       refine hK.out _ _ ⟨(blk_cell BK240.out 0).trans rfl, (blk_cell BK240.out 1).trans rfl, (blk_cell BK240.out 2).trans rfl⟩ (fun hHeld => ?_)
       clear hK K
       refine norm_ (a' := ?_) ?_ ?_
       rotate_left
       ·show Act.put _ (some 22) _ = _
        simp only [Act.put, List.setIfInBounds_toArray, List.set_cons_zero, List.set_cons_succ, i64_w, i32_w]
        rfl
       refine pX 3 23 (bl 36 15) HT_ rfl rfl kA (fun _ _ _ h => h) yA hA ?_
       refine pX 4 24 (bl 36 31) HT_ rfl rfl kA (fun _ _ _ h => h) yA hA ?_
       refine pX 5 25 (bl 36 63) HT_ rfl rfl kA (fun _ _ _ h => h) yA hA ?_
       refine one_ (i := 6) (N := some 26) (bl 36 127) rfl rfl (one_of HT_.out (by kernel_rfl)) (by decide) (fun K hK => ?_)
       refine goes_ Try.func20 (by kernel_rfl) rfl #[.slice A2 l2.length c2, .int .i64 (rd l1 x8_1)] (by rfl) rfl rfl (by (try simp only [List.map_toArray, List.map_cons, List.map_nil]); first | done | rfl | (simp only [List.length_drop, List.length_take]; rfl)) ?_
       with_reducible refine (eyewitnessref22_has.calls k1 _ _ l2 (rd l1 x8_1) false _ ?side1 ?side2 A9.out).mono ?_
       (case side1 => exact tC HR2)
       (case side2 => exact HC2.out)
       rintro e w' ⟨rfl, ⟨nd, rfl⟩⟩
       refine ⟨_, rfl, ?_⟩
       refine hK.out _ _ ⟨(blk_cell BK240.out 0).trans rfl, (blk_cell BK240.out 1).trans rfl, (blk_cell BK240.out 2).trans rfl⟩ (fun hHeld => ?_)
       clear hK K
       refine norm_ (a' := ?_) ?_ ?_
       rotate_left
       ·show Act.put _ (some 26) _ = _
        simp only [Act.put, List.setIfInBounds_toArray, List.set_cons_zero, List.set_cons_succ, i64_w, i32_w]
        rfl
       refine pX 7 27 (bl 36 255) HT_ rfl rfl kA (fun _ _ _ h => h) yA hA ?_
       refine pX 8 28 (bl 36 511) HT_ rfl rfl kA (fun _ _ _ h => h) yA hA ?_
       refine pU 9 29 (bl 36 1023) HT_ rfl rfl kA (fun _ _ _ h => h) (by rfl) hA ?_
       refine pU 10 30 (bl 36 2047) HT_ rfl rfl kA (fun _ _ _ h => h) (by rfl) hA ?_
       refine pU 11 31 (bl 36 4095) HT_ rfl rfl kA (fun _ _ _ h => h) (by rfl) hA ?_
       refine pU 12 32 (bl 36 8191) HT_ rfl rfl kA (fun _ _ _ h => h) (by rfl) hA ?_
       refine pU 13 33 (bl 36 16383) HT_ rfl rfl kA (fun _ _ _ h => h) (by rfl) hA ?_
       refine pU 14 34 (bl 36 32767) HT_ rfl rfl kA (fun _ _ _ h => h) (by rfl) hA ?_
       refine pU 15 35 (bl 36 65535) HT_ rfl rfl kA (fun _ _ _ h => h) (by rfl) hA ?_
       refine pX 16 36 (bl 36 131071) HT_ rfl rfl kA (fun _ _ _ h => h) yA hA ?_
       refine pX 17 37 (bl 36 262143) HT_ rfl rfl kA (fun _ _ _ h => h) yA hA ?_
       refine pU 18 38 (bl 36 524287) HT_ rfl rfl kA (fun _ _ _ h => h) (by rfl) hA ?_
       refine pU 19 39 (bl 36 1048575) HT_ rfl rfl kA (fun _ _ _ h => h) (by rfl) hA ?_
       refine pU 20 40 (bl 36 2097151) HT_ rfl rfl kA (fun _ _ _ h => h) (by rfl) hA ?_
       refine pU 21 41 (bl 36 4194303) HT_ rfl rfl kA (fun _ _ _ h => h) (by rfl) hA ?_
       refine pU 22 42 (bl 36 8388607) HT_ rfl rfl kA (fun _ _ _ h => h) (by rfl) hA ?_
       refine pU 23 43 (bl 36 16777215) HT_ rfl rfl kA (fun _ _ _ h => h) (by rfl) hA ?_
       refine pU 24 44 (bl 36 33554431) HT_ rfl rfl kA (fun _ _ _ h => h) (by rfl) hA ?_
       refine pU 25 45 (bl 36 67108863) HT_ rfl rfl kA (fun _ _ _ h => h) (by rfl) hA ?_
       refine pU 26 46 (bl 36 134217727) HT_ rfl rfl kA (fun _ _ _ h => h) (by rfl) hA ?_
       refine pU 27 47 (bl 36 268435455) HT_ rfl rfl kA (fun _ _ _ h => h) (by rfl) hA ?_
       refine pU 28 48 (bl 36 536870911) HT_ rfl rfl kA (fun _ _ _ h => h) (by rfl) hA ?_
       refine pU 29 49 (bl 36 1073741823) HT_ rfl rfl kA (fun _ _ _ h => h) (by rfl) hA ?_
       refine pU 30 50 (bl 36 2147483647) HT_ rfl rfl kA (fun _ _ _ h => h) (by rfl) hA ?_
       refine pU 31 51 (bl 36 4294967295) HT_ rfl rfl kA (fun _ _ _ h => h) (by rfl) hA ?_
       refine pU 32 52 (bl 36 8589934591) HT_ rfl rfl kA (fun _ _ _ h => h) (by rfl) hA ?_
       refine pU 33 53 (bl 36 17179869183) HT_ rfl rfl kA (fun _ _ _ h => h) (by rfl) hA ?_
       refine pU 34 54 (bl 36 34359738367) HT_ rfl rfl kA (fun _ _ _ h => h) (by rfl) hA ?_
       refine pX 35 55 (bl 36 68719476735) HT_ rfl rfl kA (fun _ _ _ h => h) yA hA ?_
       refine done_ (done_of HT_.out (by kernel_rfl)) ?_
       try go_wp2
       go_roundg k1
       case measure => have := HK1.out; omega
       case rel => exact ⟨(wrap64 (x8_1 + 1)), (by first | rfl | (simp; done) | (simp [*]; done)), H', ⟨by have := HK1.out; omega⟩, ⟨by (with_reducible repeat (first | refine blk_drewN ?_ _ | refine blk_drew ?_ | refine blk_alloc ?_ _)); exact BK240.out⟩, ⟨tH⟩⟩
     ·replace c8 := Bool.eq_false_iff.mpr c8
      subst c8
      have H1 : (eyewitnessref22_Wrong.l0 k1 l1 l2 (wrap64 (x8_1 + 1)) l0_0 l0_1 l0_2) = some (r1, r2) := by rw [if_neg (show ¬ (false = true) by decide)] at H; exact H
      clear H
      have H := H1
      clear H1
      have H' := Aside0.mk H
      clear H
      have p241 : 0 ≤ (x8_1 : Int) := of_decide_eq_true aS
      have q241 : x8_1 < (l1.length : Int) := of_decide_eq_true aS
      obtain ⟨ad241, e241, hx241_0⟩ := Kd.at_int HR1.out x8_1 p241 q241
      cases e241
      replace hx241_0 := pw_cell_below HB.out hx241_0
      replace p241 := eq_true p241
      replace q241 := eq_true q241
      try go_wp2
      have n0_ := Aside0.mk (blk_drew BK240.out)
      have n1_ := Aside0.mk (below_drew1 HB.out)
      clear BK240
      clear HB
      have BK240 := n0_
      have HB := n1_
      clear n0_ n1_
      refine start_ (n := 36) (S := fun w' => w'.cell? ⟨gb240, 0, none⟩ = some (.slice A0_0 l0_0.length c0_0) ∧ w'.cell? ⟨gb240, 1, none⟩ = some (.slice A0_1 l0_1.length c0_1) ∧ w'.cell? ⟨gb240, 2, none⟩ = some (.slice A0_2 l0_2.length c0_2)) (ds := []) (bl 36 0) (by kernel_rfl) rfl rfl ⟨(blk_cell BK240.out 0).trans rfl, (blk_cell BK240.out 1).trans rfl, (blk_cell BK240.out 2).trans rfl⟩ (fun hHeld => ?_); refine with_tabW eyewitnessref22_Wrong.tab5 eyewitnessref22_Wrong.bits5 (fun HT_ HW_ => ?_)
      generalize wr.drew = w32 at BK240 HB hHeld ⊢
      refine pX 1 21 (bl 36 2) HT_ rfl rfl kA (fun _ _ _ h => h) yA hA ?_
      refine pT 0 20 (bl 36 3) HT_ HW_ rfl rfl kA (fun _ _ _ h => h) yS hHeld hA ?_
      refine one_ (i := 2) (N := some 22) (bl 36 7) rfl rfl (one_of HT_.out (by kernel_rfl)) (by decide) (fun K hK => ?_)
      refine goes_ Try.func19 (by kernel_rfl) rfl #[.agg #[.slice A0_0 l0_0.length c0_0, .slice A0_1 l0_1.length c0_1, .slice A0_2 l0_2.length c0_2], .int .i64 (rd l1 x8_1)] (by rfl) rfl rfl (by (try simp only [List.map_toArray, List.map_cons, List.map_nil]); first | done | rfl | (simp only [List.length_drop, List.length_take]; rfl)) ?_
      with_reducible refine (eyewitnessref22_item.calls _ _ l0_0 _ _ l0_1 _ _ l0_2 (rd l1 x8_1) false _ ?side1 ?side2 ?side3 ?side4 ?side5 ?side6 A7.out).mono ?_
      (case side1 => exact tC HR0_0)
      (case side2 => exact HC0_0.out)
      (case side3 => exact tC HR0_1)
      (case side4 => exact HC0_1.out)
      (case side5 => exact tC HR0_2)
      (case side6 => exact HC0_2.out)
      rintro e w33 ⟨rfl, hb⟩
      refine ⟨_, rfl, ?_⟩
      have n0_ := Aside0.mk (blk_below (g := gb240) tB hb)
      have n1_ := Aside0.mk (below_step tH hb)
      clear BK240
      clear HB
      have BK240 := n0_
      have HB := n1_
      clear n0_ n1_
      (try clear hb)
      (try clear hb2)
      (try clear hk)
      (try clear hi)
      refine hK.out _ _ ⟨(blk_cell BK240.out 0).trans rfl, (blk_cell BK240.out 1).trans rfl, (blk_cell BK240.out 2).trans rfl⟩ (fun hHeld => ?_)
      clear hK K
      refine norm_ (a' := ?_) ?_ ?_
      rotate_left
      ·show Act.put _ (some 22) _ = _
       simp only [Act.put, List.setIfInBounds_toArray, List.set_cons_zero, List.set_cons_succ, i64_w, i32_w]
       rfl
      refine pX 3 23 (bl 36 15) HT_ rfl rfl kA (fun _ _ _ h => h) yA hA ?_
      refine pU 4 24 (bl 36 31) HT_ rfl rfl kA (fun _ _ _ h => h) (by rfl) hA ?_
      refine pU 5 25 (bl 36 63) HT_ rfl rfl kA (fun _ _ _ h => h) (by rfl) hA ?_
      refine pU 6 26 (bl 36 127) HT_ rfl rfl kA (fun _ _ _ h => h) (by rfl) hA ?_
      refine pX 7 27 (bl 36 255) HT_ rfl rfl kA (fun _ _ _ h => h) yA hA ?_
      refine pX 8 28 (bl 36 511) HT_ rfl rfl kA (fun _ _ _ h => h) yA hA ?_
      refine pU 9 29 (bl 36 1023) HT_ rfl rfl kA (fun _ _ _ h => h) (by rfl) hA ?_
      refine pU 10 30 (bl 36 2047) HT_ rfl rfl kA (fun _ _ _ h => h) (by rfl) hA ?_
      refine pU 11 31 (bl 36 4095) HT_ rfl rfl kA (fun _ _ _ h => h) (by rfl) hA ?_
      refine pU 12 32 (bl 36 8191) HT_ rfl rfl kA (fun _ _ _ h => h) (by rfl) hA ?_
      refine pU 13 33 (bl 36 16383) HT_ rfl rfl kA (fun _ _ _ h => h) (by rfl) hA ?_
      refine pU 14 34 (bl 36 32767) HT_ rfl rfl kA (fun _ _ _ h => h) (by rfl) hA ?_
      refine pU 15 35 (bl 36 65535) HT_ rfl rfl kA (fun _ _ _ h => h) (by rfl) hA ?_
      refine pX 16 36 (bl 36 131071) HT_ rfl rfl kA (fun _ _ _ h => h) yA hA ?_
      refine pX 17 37 (bl 36 262143) HT_ rfl rfl kA (fun _ _ _ h => h) yA hA ?_
      refine pU 18 38 (bl 36 524287) HT_ rfl rfl kA (fun _ _ _ h => h) (by rfl) hA ?_
      refine pU 19 39 (bl 36 1048575) HT_ rfl rfl kA (fun _ _ _ h => h) (by rfl) hA ?_
      refine pU 20 40 (bl 36 2097151) HT_ rfl rfl kA (fun _ _ _ h => h) (by rfl) hA ?_
      refine pU 21 41 (bl 36 4194303) HT_ rfl rfl kA (fun _ _ _ h => h) (by rfl) hA ?_
      refine pU 22 42 (bl 36 8388607) HT_ rfl rfl kA (fun _ _ _ h => h) (by rfl) hA ?_
      refine pU 23 43 (bl 36 16777215) HT_ rfl rfl kA (fun _ _ _ h => h) (by rfl) hA ?_
      refine pU 24 44 (bl 36 33554431) HT_ rfl rfl kA (fun _ _ _ h => h) (by rfl) hA ?_
      refine pU 25 45 (bl 36 67108863) HT_ rfl rfl kA (fun _ _ _ h => h) (by rfl) hA ?_
      refine pU 26 46 (bl 36 134217727) HT_ rfl rfl kA (fun _ _ _ h => h) (by rfl) hA ?_
      refine pU 27 47 (bl 36 268435455) HT_ rfl rfl kA (fun _ _ _ h => h) (by rfl) hA ?_
      refine pU 28 48 (bl 36 536870911) HT_ rfl rfl kA (fun _ _ _ h => h) (by rfl) hA ?_
      refine pU 29 49 (bl 36 1073741823) HT_ rfl rfl kA (fun _ _ _ h => h) (by rfl) hA ?_
      refine pU 30 50 (bl 36 2147483647) HT_ rfl rfl kA (fun _ _ _ h => h) (by rfl) hA ?_
      refine pU 31 51 (bl 36 4294967295) HT_ rfl rfl kA (fun _ _ _ h => h) (by rfl) hA ?_
      refine pU 32 52 (bl 36 8589934591) HT_ rfl rfl kA (fun _ _ _ h => h) (by rfl) hA ?_
      refine pU 33 53 (bl 36 17179869183) HT_ rfl rfl kA (fun _ _ _ h => h) (by rfl) hA ?_
      refine pU 34 54 (bl 36 34359738367) HT_ rfl rfl kA (fun _ _ _ h => h) (by rfl) hA ?_
      refine pX 35 55 (bl 36 68719476735) HT_ rfl rfl kA (fun _ _ _ h => h) yA hA ?_
      refine done_ (done_of HT_.out (by kernel_rfl)) ?_
      try go_wp2
      go_roundg k1
      case measure => have := HK1.out; omega
      case rel => exact ⟨(wrap64 (x8_1 + 1)), (by first | rfl | (simp; done) | (simp [*]; done)), H', ⟨by have := HK1.out; omega⟩, ⟨by (with_reducible repeat (first | refine blk_drewN ?_ _ | refine blk_drew ?_ | refine blk_alloc ?_ _)); exact BK240.out⟩, ⟨tH⟩⟩
    ·rw [if_neg c6] at H
     exact absurd H (by simp)
   ·rw [if_neg c5] at H
    have c5b0 : decide (x8_1 < (l1.length : Int)) = false := decide_eq_false c5
    clear c5
    simp only [Option.some.injEq, Prod.mk.injEq] at H
    obtain ⟨rfl, rfl⟩ := H
    go_wp2
    go_ret2
    exact ⟨by first | rfl | (simp [errW_none, errW_some] <;> rfl) | (simp [*, errW_none, errW_some] <;> rfl), tH⟩

end Go.Proofs.Ytcnjnollmamifaa.P
