-- written by a program (wip/tools/pr.py: the kit's print over this seat)
import Derived.Test.YtcnjnollmamifaaPKinds
import Derived.Test.YtcnjnollmamifaaPRef22Item
namespace Go.Proofs.Ytcnjnollmamifaa.P
open Go.RowKit Go.Proofs.YtcnjnollmamifaaW.PrintWords Go.Proofs.YtcnjnollmamifaaW.PrintLast Go.Proofs.YtcnjnollmamifaaW.PrintMore
attribute [local go_sem] max2_int min2_int max_two min_two max_three min_three max_four min_four   -- for this text's walks alone
set_option linter.unusedVariables false
set_option linter.unusedSimpArgs false

/-! ### eyewitnessref22_last: function 21 -/
def eyewitnessref22_last.l0 : Nat → List Int → Int → Int → List ByteArray → List (S40) → List Int → Option (Int)
 | 0, _, _, _, _, _, _ => none
 | k + 1, x1, x2, x7, x233000, x233001, x233002 => if x7 ≥ 0 then (if 0 ≤ x7 then (if x7 < (x1.length : Int) then ((eyewitnessref22_item.f x233000 x233001 x233002 (rd x1 x7)).bind fun t234 => (if t234 = true then (if 0 ≤ (rd x1 x7) then (if (rd x1 x7) < (x233001.length : Int) then (if (rd_T40 x233001 (rd x1 x7)).f2 = true then (if ((rd_T40 x233001 (rd x1 x7)).f3) = x2 then (some (rd x1 x7)) else (eyewitnessref22_last.l0 k x1 x2 (wrap64 (x7 - 1)) x233000 x233001 x233002)) else (eyewitnessref22_last.l0 k x1 x2 (wrap64 (x7 - 1)) x233000 x233001 x233002)) else (none)) else (none)) else (eyewitnessref22_last.l0 k x1 x2 (wrap64 (x7 - 1)) x233000 x233001 x233002))) else (none)) else (none)) else (some (-1))
def eyewitnessref22_last.f (k : Nat) (l0_0 : List ByteArray) (l0_1 : List (S40)) (l0_2 : List Int) (l1 : List Int) (a2 : Int) : Option (Int) := eyewitnessref22_last.l0 k l1 a2 (wrap64 ((l1.length : Int) - 1)) l0_0 l0_1 l0_2
theorem eyewitnessref22_last.mono_l : ∀ k, (∀ y0 y1 y2 y3 y4 y5, LeO (eyewitnessref22_last.l0 k y0 y1 y2 y3 y4 y5) (eyewitnessref22_last.l0 (k + 1) y0 y1 y2 y3 y4 y5))
 | 0 => fun _ _ _ _ _ _ r h => by simp [eyewitnessref22_last.l0] at h
 | k + 1 => by
  have ih0 := eyewitnessref22_last.mono_l k
  ·intro y0 y1 y2 y3 y4 y5
   unfold eyewitnessref22_last.l0
   repeat' first
   | (with_reducible exact ih0 _ _ _ _ _ _)
   | (with_reducible exact LeO.refl _)
   | (with_reducible exact LeO.none _)
   | (with_reducible refine LeO.ite ?_ ?_)
   | (with_reducible refine LeO.bind ?_ (fun _ => ?_))
   | exact ih0 _ _ _ _ _ _
   | exact LeO.none _
   | refine LeO.ite ?_ ?_
   | refine LeO.bind ?_ (fun _ => ?_)
theorem eyewitnessref22_last.mono : ∀ a0 a1 a2 a3 a4 k, LeO (eyewitnessref22_last.f k a0 a1 a2 a3 a4) (eyewitnessref22_last.f (k + 1) a0 a1 a2 a3 a4) := by
 intro a0 a1 a2 a3 a4 k
 have ih0 := eyewitnessref22_last.mono_l k
 unfold eyewitnessref22_last.f
 repeat' first
   | (with_reducible exact ih0 _ _ _ _ _ _)
   | (with_reducible exact LeO.refl _)
   | (with_reducible exact LeO.none _)
   | (with_reducible refine LeO.ite ?_ ?_)
   | (with_reducible refine LeO.bind ?_ (fun _ => ?_))
   | exact ih0 _ _ _ _ _ _
   | exact LeO.none _
   | refine LeO.ite ?_ ?_
   | refine LeO.bind ?_ (fun _ => ?_)
def eyewitnessref22_last.T4 : Bool × List (List Nat × List Nat) := (true, [([], []), ([], []), ([], []), ([1, 2], [1, 2]), ([3], [3]), ([0, 4], [0, 4]), ([5, 5], [5]), ([6], [6]), ([7, 6], [6, 7]), ([6], [6]), ([6], [6]), ([9, 10, 6], [6, 9, 10]), ([11, 6], [6, 11]), ([8, 12, 6], [6, 8, 12]), ([13, 6], [6, 13]), ([14, 6], [6, 14]), ([6, 15], [6, 15]), ([16, 6], [16]), ([17], [17]), ([18, 17], [17, 18]), ([17], [17]), ([17], [17]), ([20, 21, 17], [17, 20, 21]), ([22, 17], [17, 22]), ([19, 23, 17], [17, 19, 23]), ([24, 17], [17, 24]), ([25, 17], [17, 25]), ([17], [17]), ([26, 27, 17], [17, 26, 27]), ([17, 28], [17, 28])])
def eyewitnessref22_last.B4 : List Nat := [0, 0, 0, 6, 14, 31, 63, 127, 255, 127, 127, 1663, 3711, 8191, 16383, 32767, 65535, 131071, 262143, 524287, 262143, 262143, 3407871, 7602175, 16777215, 33554431, 67108863, 262143, 268435455, 536870911]
theorem eyewitnessref22_last.tab4 : rtab .any (opsOf Try.f21 4) = eyewitnessref22_last.T4 := by kernel_rfl
theorem eyewitnessref22_last.bits4 : waitsOk eyewitnessref22_last.T4.2 eyewitnessref22_last.B4 = true := by kernel_rfl
set_option maxHeartbeats 8000000 in
set_option maxRecDepth 100000 in
theorem eyewitnessref22_last.calls (k : Nat) (A0_0 : Option Addr) (c0_0 : Nat) (l0_0 : List ByteArray) (A0_1 : Option Addr) (c0_1 : Nat) (l0_1 : List (S40)) (A0_2 : Option Addr) (c0_2 : Nat) (l0_2 : List Int) (A1 : Option Addr) (c1 : Nat) (l1 : List Int) (a2 : Int) (r : Int) (w : World) (hr0_0 : Kd.C Kd.string w A0_0 l0_0.length l0_0) (hc0_0 : l0_0.length ≤ c0_0) (hr0_1 : Kd.C k40 w A0_1 l0_1.length l0_1) (hc0_1 : l0_1.length ≤ c0_1) (hr0_2 : Kd.C (Kd.int .i64) w A0_2 l0_2.length l0_2) (hc0_2 : l0_2.length ≤ c0_2) (hr1 : Kd.C (Kd.int .i64) w A1 l1.length l1) (hc1 : l1.length ≤ c1) (h : eyewitnessref22_last.f k l0_0 l0_1 l0_2 l1 a2 = some r) :
  Calls Try.prog 21 #[.agg #[.slice A0_0 l0_0.length c0_0, .slice A0_1 l0_1.length c0_1, .slice A0_2 l0_2.length c0_2], .slice A1 l1.length c1, .int .i64 a2] w fun e w' => e = .returned (.int .i64 r) ∧ Below w.heap.size w w' := by
 have hu31 := Try.underlying31
 have HR0_0 := Aside0.mk hr0_0
 have HC0_0 := Aside0.mk hc0_0
 clear hr0_0 hc0_0
 have HR0_1 := Aside0.mk hr0_1
 have HC0_1 := Aside0.mk hc0_1
 clear hr0_1 hc0_1
 have HR0_2 := Aside0.mk hr0_2
 have HC0_2 := Aside0.mk hc0_2
 clear hr0_2 hc0_2
 have HR1 := Aside0.mk hr1
 have HC1 := Aside0.mk hc1
 clear hr1 hc1
 have HB := Aside0.mk (Below.refl w.heap.size w)
 have H : (eyewitnessref22_last.l0 k l1 a2 (wrap64 ((l1.length : Int) - 1)) l0_0 l0_1 l0_2) = some r := h
 clear h
 have H' := Aside0.mk H
 clear H
 go_enter Try.func21, Try.ntmps21
 go_wp2_with (first | ((with_reducible refine gate_dst (N := 3) rfl ?_); refine box_event ?hg (N := 3) ?hd (cs := #[.slice A0_0 l0_0.length c0_0, .slice A0_1 l0_1.length c0_1, .slice A0_2 l0_2.length c0_2]) (t := 31) ?hr ?_; (case hd => rfl); (case hg => rfl); (case hr => first | (go_simp; done) | (go_simp; rfl)); intro gb232 hg w4 hbox hb; have n0_ := Aside0.mk (below_step tH hb); have n1_ := Aside0.mk (hbox); have n2_ := Aside0.mk ((by rw [hg]; exact (below_size tH) : w.heap.size ≤ gb232)); have n3_ := Aside0.mk ((by rw [hg]; exact (below_size tH) : w.heap.size ≤ gb232)); clear HB; have HB := n0_; have BK232 := n1_; have GW232 := n2_; have GE232 := n3_; clear n0_ n1_ n2_ n3_; clear hb hbox hg))
 go_loopg [7] k (fun kq v7 w' => ∃ (x7_1 : Int), v7 = .int .i64 x7_1 ∧ Aside0 (eyewitnessref22_last.l0 kq l1 a2 x7_1 l0_0 l0_1 l0_2 = some r) ∧ Aside0 (kq ≤ k) ∧ Aside0 (w'.heap[gb232]? = some (.cells #[(.slice A0_0 l0_0.length c0_0), (.slice A0_1 l0_1.length c0_1), (.slice A0_2 l0_2.length c0_2)] 31 (0, 0))) ∧ Aside0 (Below w.heap.size w w'))
 case atStart => exact ⟨(wrap64 ((l1.length : Int) - 1)), (by first | rfl | (simp; done) | (simp [*]; done)), H', ⟨Nat.le_refl _⟩, ⟨by (with_reducible repeat (first | refine blk_drewN ?_ _ | refine blk_drew ?_ | refine blk_alloc ?_ _)); exact BK232.out⟩, ⟨tH⟩⟩
 case round =>
  clear H'
  try clear c1
  try clear c2
  try clear p2
  obtain ⟨x7_1, rfl, HA, HK1, BK232, HB⟩ := hrel
  cases gk with
  | zero => exact absurd HA.out (by simp [eyewitnessref22_last.l0])
  | succ k1 =>
   have H := HA.out
   clear HA
   simp only [eyewitnessref22_last.l0] at H
   by_cases c5 : x7_1 ≥ 0
   ·rw [if_pos c5] at H
    have c5b0 : decide (0 ≤ x7_1) = true := decide_eq_true c5
    clear c5
    by_cases c6 : 0 ≤ x7_1
    ·rw [if_pos c6] at H
     have c6b0 : decide (0 ≤ x7_1) = true := decide_eq_true c6
     clear c6
     by_cases c7 : x7_1 < (l1.length : Int)
     ·rw [if_pos c7] at H
      have c7b0 : decide (x7_1 < (l1.length : Int)) = true := decide_eq_true c7
      clear c7
      replace H := Option.bind_eq_some_iff.mp H
      obtain ⟨t234, A80, H⟩ := H
      replace H : (if t234 = true then (if 0 ≤ (rd l1 x7_1) then (if (rd l1 x7_1) < (l0_1.length : Int) then (if (rd_T40 l0_1 (rd l1 x7_1)).f2 = true then (if ((rd_T40 l0_1 (rd l1 x7_1)).f3) = a2 then (some (rd l1 x7_1)) else (eyewitnessref22_last.l0 k1 l1 a2 (wrap64 (x7_1 - 1)) l0_0 l0_1 l0_2)) else (eyewitnessref22_last.l0 k1 l1 a2 (wrap64 (x7_1 - 1)) l0_0 l0_1 l0_2)) else (none)) else (none)) else (eyewitnessref22_last.l0 k1 l1 a2 (wrap64 (x7_1 - 1)) l0_0 l0_1 l0_2)) = some r := H
      have A8 := Aside0.mk A80
      clear A80
      by_cases c9 : t234 = true
      ·subst c9
       have H1 : (if 0 ≤ (rd l1 x7_1) then (if (rd l1 x7_1) < (l0_1.length : Int) then (if (rd_T40 l0_1 (rd l1 x7_1)).f2 = true then (if ((rd_T40 l0_1 (rd l1 x7_1)).f3) = a2 then (some (rd l1 x7_1)) else (eyewitnessref22_last.l0 k1 l1 a2 (wrap64 (x7_1 - 1)) l0_0 l0_1 l0_2)) else (eyewitnessref22_last.l0 k1 l1 a2 (wrap64 (x7_1 - 1)) l0_0 l0_1 l0_2)) else (none)) else (none)) = some r := by rw [if_pos rfl] at H; exact H
       clear H
       have H := H1
       clear H1
       by_cases c10 : 0 ≤ (rd l1 x7_1)
       ·rw [if_pos c10] at H
        have c10b0 : decide (0 ≤ (rd l1 x7_1)) = true := decide_eq_true c10
        clear c10
        by_cases c11 : (rd l1 x7_1) < (l0_1.length : Int)
        ·rw [if_pos c11] at H
         have c11b0 : decide ((rd l1 x7_1) < (l0_1.length : Int)) = true := decide_eq_true c11
         clear c11
         obtain ⟨bq12, hbq12⟩ : ∃ b_ : Bool, b_ = ((rd_T40 l0_1 (rd l1 x7_1)).f2) := ⟨_, rfl⟩
         replace H : (if bq12 = true then (if ((rd_T40 l0_1 (rd l1 x7_1)).f3) = a2 then (some (rd l1 x7_1)) else (eyewitnessref22_last.l0 k1 l1 a2 (wrap64 (x7_1 - 1)) l0_0 l0_1 l0_2)) else (eyewitnessref22_last.l0 k1 l1 a2 (wrap64 (x7_1 - 1)) l0_0 l0_1 l0_2)) = some r := by rw [← hbq12] at H; exact H
         have Nbq12 := Aside0.mk hbq12
         clear hbq12
         by_cases c13 : bq12 = true
         ·subst c13
          have H1 : (if ((rd_T40 l0_1 (rd l1 x7_1)).f3) = a2 then (some (rd l1 x7_1)) else (eyewitnessref22_last.l0 k1 l1 a2 (wrap64 (x7_1 - 1)) l0_0 l0_1 l0_2)) = some r := by rw [if_pos rfl] at H; exact H
          clear H
          have H := H1
          clear H1
          by_cases c14 : ((rd_T40 l0_1 (rd l1 x7_1)).f3) = a2
          ·rw [if_pos c14] at H
           have c14b0 : (((rd_T40 l0_1 (rd l1 x7_1)).f3) == a2) = true := beq_iff_eq.mpr c14
           have c14b1 : (((rd_T40 l0_1 (rd l1 x7_1)).f3) != a2) = false := bne_eq_false_iff_eq.mpr c14
           clear c14
           obtain rfl := Option.some.inj H
           try go_wp2
           have n0_ := Aside0.mk (blk_drew BK232.out)
           have n1_ := Aside0.mk (below_drew1 HB.out)
           clear BK232
           clear HB
           have BK232 := n0_
           have HB := n1_
           clear n0_ n1_
           have p233 : 0 ≤ (x7_1 : Int) := of_decide_eq_true aS
           have q233 : x7_1 < (l1.length : Int) := of_decide_eq_true aS
           obtain ⟨ad233, e233, hx233_0⟩ := Kd.at_int HR1.out x7_1 p233 q233
           have hw233_0 := hx233_0
           cases e233
           replace hx233_0 := pw_cell_below HB.out hx233_0
           replace p233 := eq_true p233
           replace q233 := eq_true q233
           have p235 : 0 ≤ (x7_1 : Int) := of_decide_eq_true aS
           have q235 : x7_1 < (l1.length : Int) := of_decide_eq_true aS
           obtain ⟨ad235, e235, hx235_0⟩ := Kd.at_int HR1.out x7_1 p235 q235
           have hw235_0 := hx235_0
           obtain rfl : ad233 = ad235 := (by injection e235)
           replace hx235_0 := pw_cell_below HB.out hx235_0
           replace p235 := eq_true p235
           replace q235 := eq_true q235
           have p236 : 0 ≤ ((rd l1 x7_1) : Int) := of_decide_eq_true aS
           have q236 : (rd l1 x7_1) < (l0_1.length : Int) := of_decide_eq_true aS
           obtain ⟨ad236, e236, hx236_0, hx236_1, hx236_2, hx236_3, hx236_4⟩ := at_T40 HR0_1.out (rd l1 x7_1) p236 q236
           have hw236_4 := hx236_4
           have hw236_3 := hx236_3
           have hw236_2 := hx236_2
           have hw236_1 := hx236_1
           have hw236_0 := hx236_0
           (try rw [← Nbq12.out] at hx236_2)
           (try rw [← Nbq12.out] at hw236_2)
           cases e236
           replace hx236_0 := pw_cell_below HB.out hx236_0
           replace hx236_1 := pw_cell_below HB.out hx236_1
           replace hx236_2 := pw_cell_below HB.out hx236_2
           replace hx236_3 := pw_cell_below HB.out hx236_3
           replace hx236_4 := pw_cell_below HB.out hx236_4
           replace p236 := eq_true p236
           replace q236 := eq_true q236
           have p237 : 0 ≤ (x7_1 : Int) := of_decide_eq_true aS
           have q237 : x7_1 < (l1.length : Int) := of_decide_eq_true aS
           obtain ⟨ad237, e237, hx237_0⟩ := Kd.at_int HR1.out x7_1 p237 q237
           have hw237_0 := hx237_0
           obtain rfl : ad233 = ad237 := (by injection e237)
           replace hx237_0 := pw_cell_below HB.out hx237_0
           replace p237 := eq_true p237
           replace q237 := eq_true q237
           have p238 : 0 ≤ ((rd l1 x7_1) : Int) := of_decide_eq_true aS
           have q238 : (rd l1 x7_1) < (l0_1.length : Int) := of_decide_eq_true aS
           obtain ⟨ad238, e238, hx238_0, hx238_1, hx238_2, hx238_3, hx238_4⟩ := at_T40 HR0_1.out (rd l1 x7_1) p238 q238
           have hw238_4 := hx238_4
           have hw238_3 := hx238_3
           have hw238_2 := hx238_2
           have hw238_1 := hx238_1
           have hw238_0 := hx238_0
           (try rw [← Nbq12.out] at hx238_2)
           (try rw [← Nbq12.out] at hw238_2)
           obtain rfl : ad236 = ad238 := (by injection e238)
           replace hx238_0 := pw_cell_below HB.out hx238_0
           replace hx238_1 := pw_cell_below HB.out hx238_1
           replace hx238_2 := pw_cell_below HB.out hx238_2
           replace hx238_3 := pw_cell_below HB.out hx238_3
           replace hx238_4 := pw_cell_below HB.out hx238_4
           replace p238 := eq_true p238
           replace q238 := eq_true q238
           refine start_ (n := 30) (S := fun w' => w'.cell? ⟨gb232, 0, none⟩ = some (.slice A0_0 l0_0.length c0_0) ∧ w'.cell? ⟨gb232, 1, none⟩ = some (.slice (some ad236) l0_1.length c0_1) ∧ w'.cell? ⟨gb232, 2, none⟩ = some (.slice A0_2 l0_2.length c0_2) ∧ w'.cell? (ad233.add (x7_1).toNat) = some (.int .i64 (rd l1 x7_1)) ∧ w'.cell? (ad233.add (x7_1).toNat) = some (.int .i64 (rd l1 x7_1)) ∧ w'.cell? (ad236.add (((rd l1 x7_1)).toNat * 5)) = some (.int .i64 ((rd_T40 l0_1 (rd l1 x7_1)).f0)) ∧ w'.cell? ⟨(ad236.add (((rd l1 x7_1)).toNat * 5)).block, (ad236.add (((rd l1 x7_1)).toNat * 5)).off + 1, none⟩ = some (.int .i64 ((rd_T40 l0_1 (rd l1 x7_1)).f1)) ∧ w'.cell? ⟨(ad236.add (((rd l1 x7_1)).toNat * 5)).block, (ad236.add (((rd l1 x7_1)).toNat * 5)).off + 2, none⟩ = some (.bool true) ∧ w'.cell? ⟨(ad236.add (((rd l1 x7_1)).toNat * 5)).block, (ad236.add (((rd l1 x7_1)).toNat * 5)).off + 3, none⟩ = some (.int .i64 ((rd_T40 l0_1 (rd l1 x7_1)).f3)) ∧ w'.cell? ⟨(ad236.add (((rd l1 x7_1)).toNat * 5)).block, (ad236.add (((rd l1 x7_1)).toNat * 5)).off + 4, none⟩ = some (.int .i64 ((rd_T40 l0_1 (rd l1 x7_1)).f4)) ∧ w'.cell? (ad233.add (x7_1).toNat) = some (.int .i64 (rd l1 x7_1)) ∧ w'.cell? (ad236.add (((rd l1 x7_1)).toNat * 5)) = some (.int .i64 ((rd_T40 l0_1 (rd l1 x7_1)).f0)) ∧ w'.cell? ⟨(ad236.add (((rd l1 x7_1)).toNat * 5)).block, (ad236.add (((rd l1 x7_1)).toNat * 5)).off + 1, none⟩ = some (.int .i64 ((rd_T40 l0_1 (rd l1 x7_1)).f1)) ∧ w'.cell? ⟨(ad236.add (((rd l1 x7_1)).toNat * 5)).block, (ad236.add (((rd l1 x7_1)).toNat * 5)).off + 2, none⟩ = some (.bool (true)) ∧ w'.cell? ⟨(ad236.add (((rd l1 x7_1)).toNat * 5)).block, (ad236.add (((rd l1 x7_1)).toNat * 5)).off + 3, none⟩ = some (.int .i64 ((rd_T40 l0_1 (rd l1 x7_1)).f3)) ∧ w'.cell? ⟨(ad236.add (((rd l1 x7_1)).toNat * 5)).block, (ad236.add (((rd l1 x7_1)).toNat * 5)).off + 4, none⟩ = some (.int .i64 ((rd_T40 l0_1 (rd l1 x7_1)).f4))) (ds := []) (bl 30 0) (by kernel_rfl) rfl rfl ⟨(blk_cell BK232.out 0).trans rfl, (blk_cell BK232.out 1).trans rfl, (blk_cell BK232.out 2).trans rfl, (pw_cell_below HB.out hw233_0), (pw_cell_below HB.out hw235_0), (pw_cell_below HB.out hw236_0), (pw_cell_below HB.out hw236_1), (pw_cell_below HB.out hw236_2), (pw_cell_below HB.out hw236_3), (pw_cell_below HB.out hw236_4), (pw_cell_below HB.out hw237_0), (pw_cell_below HB.out hw238_0), (pw_cell_below HB.out hw238_1), (pw_cell_below HB.out hw238_2), (pw_cell_below HB.out hw238_3), (pw_cell_below HB.out hw238_4)⟩ (fun hHeld => ?_); refine with_tabW eyewitnessref22_last.tab4 eyewitnessref22_last.bits4 (fun HT_ HW_ => ?_)
           generalize wr.drew = w15 at BK232 HB hx233_0 hx235_0 hx236_0 hx236_1 hx236_2 hx236_3 hx236_4 hx237_0 hx238_0 hx238_1 hx238_2 hx238_3 hx238_4 hHeld ⊢
           refine pX 1 16 (bl 30 2) HT_ rfl rfl kA (fun _ _ _ h => h) yA hA ?_
           refine pX 2 17 (bl 30 6) HT_ rfl rfl kA (fun _ _ _ h => h) yA hA ?_
           refine pX 3 18 (bl 30 14) HT_ rfl rfl kA (fun _ _ _ h => h) yA hA ?_
           refine pT 0 15 (bl 30 15) HT_ HW_ rfl rfl kA (fun _ _ _ h => h) yS hHeld hA ?_
           refine pT 4 19 (bl 30 31) HT_ HW_ rfl rfl kA (fun _ _ _ h => h) yS hHeld hA ?_
           refine one_ (i := 5) (N := some 20) (bl 30 63) rfl rfl (one_of HT_.out (by kernel_rfl)) (by decide) (fun K hK => ?_)
           refine goes_ Try.func19 (by kernel_rfl) rfl #[.agg #[.slice A0_0 l0_0.length c0_0, .slice (some ad236) l0_1.length c0_1, .slice A0_2 l0_2.length c0_2], .int .i64 (rd l1 x7_1)] (by rfl) rfl rfl (by (try simp only [List.map_toArray, List.map_cons, List.map_nil]); first | done | rfl | (simp only [List.length_drop, List.length_take]; rfl)) ?_
           with_reducible refine (eyewitnessref22_item.calls _ _ l0_0 _ _ l0_1 _ _ l0_2 (rd l1 x7_1) true _ ?side1 ?side2 ?side3 ?side4 ?side5 ?side6 A8.out).mono ?_
           (case side1 => exact tC HR0_0)
           (case side2 => exact HC0_0.out)
           (case side3 => exact tC HR0_1)
           (case side4 => exact HC0_1.out)
           (case side5 => exact tC HR0_2)
           (case side6 => exact HC0_2.out)
           rintro e w16 ⟨rfl, hb⟩
           refine ⟨_, rfl, ?_⟩
           have n0_ := Aside0.mk (blk_below (g := gb232) tB hb)
           have n1_ := Aside0.mk (below_step tH hb)
           clear BK232
           clear HB
           have BK232 := n0_
           have HB := n1_
           clear n0_ n1_
           (try clear hb)
           (try clear hb2)
           (try clear hk)
           (try clear hi)
           refine hK.out _ _ ⟨(blk_cell BK232.out 0).trans rfl, (blk_cell BK232.out 1).trans rfl, (blk_cell BK232.out 2).trans rfl, (pw_cell_below HB.out hw233_0), (pw_cell_below HB.out hw235_0), (pw_cell_below HB.out hw236_0), (pw_cell_below HB.out hw236_1), (pw_cell_below HB.out hw236_2), (pw_cell_below HB.out hw236_3), (pw_cell_below HB.out hw236_4), (pw_cell_below HB.out hw237_0), (pw_cell_below HB.out hw238_0), (pw_cell_below HB.out hw238_1), (pw_cell_below HB.out hw238_2), (pw_cell_below HB.out hw238_3), (pw_cell_below HB.out hw238_4)⟩ (fun hHeld => ?_)
           clear hK K
           refine norm_ (a' := ?_) ?_ ?_
           rotate_left
           ·show Act.put _ (some 20) _ = _
            simp only [Act.put, List.setIfInBounds_toArray, List.set_cons_zero, List.set_cons_succ, i64_w, i32_w]
            rfl
           refine pX 6 21 (bl 30 127) HT_ rfl rfl kA (fun _ _ _ h => h) yA hA ?_
           refine pX 7 22 (bl 30 255) HT_ rfl rfl kA (fun _ _ _ h => h) yA hA ?_
           refine pX 9 24 (bl 30 767) HT_ rfl rfl kA (fun _ _ _ h => h) yA hA ?_
           refine pX 10 25 (bl 30 1791) HT_ rfl rfl kA (fun _ _ _ h => h) yA hA ?_
           refine pX 11 26 (bl 30 3839) HT_ rfl rfl kA (fun _ _ _ h => h) yA hA ?_
           refine pT 8 23 (bl 30 4095) HT_ HW_ rfl rfl kA (fun _ _ _ h => h) yS hHeld hA ?_
           refine pT 12 27 (bl 30 8191) HT_ HW_ rfl rfl kA (fun _ _ _ h => h) yS hHeld hA ?_
           refine pX 13 28 (bl 30 16383) HT_ rfl rfl kA (fun _ _ _ h => h) yA hA ?_
           refine pX 14 29 (bl 30 32767) HT_ rfl rfl kA (fun _ _ _ h => h) yA hA ?_
           refine pT 15 30 (bl 30 65535) HT_ HW_ rfl rfl kA (fun _ _ _ h => h) yS hHeld hA ?_
           refine pX 16 31 (bl 30 131071) HT_ rfl rfl kA (fun _ _ _ h => h) yA hA ?_
           refine pX 17 32 (bl 30 262143) HT_ rfl rfl kA (fun _ _ _ h => h) yA hA ?_
           refine pX 18 33 (bl 30 524287) HT_ rfl rfl kA (fun _ _ _ h => h) yA hA ?_
           refine pX 20 35 (bl 30 1572863) HT_ rfl rfl kA (fun _ _ _ h => h) yA hA ?_
           refine pX 21 36 (bl 30 3670015) HT_ rfl rfl kA (fun _ _ _ h => h) yA hA ?_
           refine pX 22 37 (bl 30 7864319) HT_ rfl rfl kA (fun _ _ _ h => h) yA hA ?_
           refine pX 27 42 (bl 30 142082047) HT_ rfl rfl kA (fun _ _ _ h => h) yA hA ?_
           refine pT 19 34 (bl 30 142606335) HT_ HW_ rfl rfl kA (fun _ _ _ h => h) yS hHeld hA ?_
           refine pT 23 38 (bl 30 150994943) HT_ HW_ rfl rfl kA (fun _ _ _ h => h) yS hHeld hA ?_
           refine pX 24 39 (bl 30 167772159) HT_ rfl rfl kA (fun _ _ _ h => h) yA hA ?_
           refine pX 25 40 (bl 30 201326591) HT_ rfl rfl kA (fun _ _ _ h => h) yA hA ?_
           refine pT 26 41 (bl 30 268435455) HT_ HW_ rfl rfl kA (fun _ _ _ h => h) yS hHeld hA ?_
           refine pX 28 43 (bl 30 536870911) HT_ rfl rfl kA (fun _ _ _ h => h) yA hA ?_
           refine pX 29 44 (bl 30 1073741823) HT_ rfl rfl kA (fun _ _ _ h => h) yA hA ?_
           refine done_ (done_of HT_.out (by kernel_rfl)) ?_
           have p239 : 0 ≤ (x7_1 : Int) := of_decide_eq_true aS
           have q239 : x7_1 < (l1.length : Int) := of_decide_eq_true aS
           obtain ⟨ad239, e239, hx239_0⟩ := Kd.at_int HR1.out x7_1 p239 q239
           obtain rfl : ad233 = ad239 := (by injection e239)
           replace hx239_0 := pw_cell_below HB.out hx239_0
           replace p239 := eq_true p239
           replace q239 := eq_true q239
           try go_wp2
           go_ret
           exact ⟨by first | rfl | (simp [errW_none, errW_some] <;> rfl) | (simp [*, errW_none, errW_some] <;> rfl), tH⟩
          ·rw [if_neg c14] at H
           have c14b0 : (((rd_T40 l0_1 (rd l1 x7_1)).f3) == a2) = false := beq_eq_false_iff_ne.mpr c14
           have c14b1 : (((rd_T40 l0_1 (rd l1 x7_1)).f3) != a2) = true := bne_iff_ne.mpr c14
           have H' := Aside0.mk H
           clear H
           try go_wp2
           have n0_ := Aside0.mk (blk_drew BK232.out)
           have n1_ := Aside0.mk (below_drew1 HB.out)
           clear BK232
           clear HB
           have BK232 := n0_
           have HB := n1_
           clear n0_ n1_
           have p233 : 0 ≤ (x7_1 : Int) := of_decide_eq_true aS
           have q233 : x7_1 < (l1.length : Int) := of_decide_eq_true aS
           obtain ⟨ad233, e233, hx233_0⟩ := Kd.at_int HR1.out x7_1 p233 q233
           have hw233_0 := hx233_0
           cases e233
           replace hx233_0 := pw_cell_below HB.out hx233_0
           replace p233 := eq_true p233
           replace q233 := eq_true q233
           have p235 : 0 ≤ (x7_1 : Int) := of_decide_eq_true aS
           have q235 : x7_1 < (l1.length : Int) := of_decide_eq_true aS
           obtain ⟨ad235, e235, hx235_0⟩ := Kd.at_int HR1.out x7_1 p235 q235
           have hw235_0 := hx235_0
           obtain rfl : ad233 = ad235 := (by injection e235)
           replace hx235_0 := pw_cell_below HB.out hx235_0
           replace p235 := eq_true p235
           replace q235 := eq_true q235
           have p236 : 0 ≤ ((rd l1 x7_1) : Int) := of_decide_eq_true aS
           have q236 : (rd l1 x7_1) < (l0_1.length : Int) := of_decide_eq_true aS
           obtain ⟨ad236, e236, hx236_0, hx236_1, hx236_2, hx236_3, hx236_4⟩ := at_T40 HR0_1.out (rd l1 x7_1) p236 q236
           have hw236_4 := hx236_4
           have hw236_3 := hx236_3
           have hw236_2 := hx236_2
           have hw236_1 := hx236_1
           have hw236_0 := hx236_0
           (try rw [← Nbq12.out] at hx236_2)
           (try rw [← Nbq12.out] at hw236_2)
           cases e236
           replace hx236_0 := pw_cell_below HB.out hx236_0
           replace hx236_1 := pw_cell_below HB.out hx236_1
           replace hx236_2 := pw_cell_below HB.out hx236_2
           replace hx236_3 := pw_cell_below HB.out hx236_3
           replace hx236_4 := pw_cell_below HB.out hx236_4
           replace p236 := eq_true p236
           replace q236 := eq_true q236
           have p237 : 0 ≤ (x7_1 : Int) := of_decide_eq_true aS
           have q237 : x7_1 < (l1.length : Int) := of_decide_eq_true aS
           obtain ⟨ad237, e237, hx237_0⟩ := Kd.at_int HR1.out x7_1 p237 q237
           have hw237_0 := hx237_0
           obtain rfl : ad233 = ad237 := (by injection e237)
           replace hx237_0 := pw_cell_below HB.out hx237_0
           replace p237 := eq_true p237
           replace q237 := eq_true q237
           have p238 : 0 ≤ ((rd l1 x7_1) : Int) := of_decide_eq_true aS
           have q238 : (rd l1 x7_1) < (l0_1.length : Int) := of_decide_eq_true aS
           obtain ⟨ad238, e238, hx238_0, hx238_1, hx238_2, hx238_3, hx238_4⟩ := at_T40 HR0_1.out (rd l1 x7_1) p238 q238
           have hw238_4 := hx238_4
           have hw238_3 := hx238_3
           have hw238_2 := hx238_2
           have hw238_1 := hx238_1
           have hw238_0 := hx238_0
           (try rw [← Nbq12.out] at hx238_2)
           (try rw [← Nbq12.out] at hw238_2)
           obtain rfl : ad236 = ad238 := (by injection e238)
           replace hx238_0 := pw_cell_below HB.out hx238_0
           replace hx238_1 := pw_cell_below HB.out hx238_1
           replace hx238_2 := pw_cell_below HB.out hx238_2
           replace hx238_3 := pw_cell_below HB.out hx238_3
           replace hx238_4 := pw_cell_below HB.out hx238_4
           replace p238 := eq_true p238
           replace q238 := eq_true q238
           refine start_ (n := 30) (S := fun w' => w'.cell? ⟨gb232, 0, none⟩ = some (.slice A0_0 l0_0.length c0_0) ∧ w'.cell? ⟨gb232, 1, none⟩ = some (.slice (some ad236) l0_1.length c0_1) ∧ w'.cell? ⟨gb232, 2, none⟩ = some (.slice A0_2 l0_2.length c0_2) ∧ w'.cell? (ad233.add (x7_1).toNat) = some (.int .i64 (rd l1 x7_1)) ∧ w'.cell? (ad233.add (x7_1).toNat) = some (.int .i64 (rd l1 x7_1)) ∧ w'.cell? (ad236.add (((rd l1 x7_1)).toNat * 5)) = some (.int .i64 ((rd_T40 l0_1 (rd l1 x7_1)).f0)) ∧ w'.cell? ⟨(ad236.add (((rd l1 x7_1)).toNat * 5)).block, (ad236.add (((rd l1 x7_1)).toNat * 5)).off + 1, none⟩ = some (.int .i64 ((rd_T40 l0_1 (rd l1 x7_1)).f1)) ∧ w'.cell? ⟨(ad236.add (((rd l1 x7_1)).toNat * 5)).block, (ad236.add (((rd l1 x7_1)).toNat * 5)).off + 2, none⟩ = some (.bool true) ∧ w'.cell? ⟨(ad236.add (((rd l1 x7_1)).toNat * 5)).block, (ad236.add (((rd l1 x7_1)).toNat * 5)).off + 3, none⟩ = some (.int .i64 ((rd_T40 l0_1 (rd l1 x7_1)).f3)) ∧ w'.cell? ⟨(ad236.add (((rd l1 x7_1)).toNat * 5)).block, (ad236.add (((rd l1 x7_1)).toNat * 5)).off + 4, none⟩ = some (.int .i64 ((rd_T40 l0_1 (rd l1 x7_1)).f4)) ∧ w'.cell? (ad233.add (x7_1).toNat) = some (.int .i64 (rd l1 x7_1)) ∧ w'.cell? (ad236.add (((rd l1 x7_1)).toNat * 5)) = some (.int .i64 ((rd_T40 l0_1 (rd l1 x7_1)).f0)) ∧ w'.cell? ⟨(ad236.add (((rd l1 x7_1)).toNat * 5)).block, (ad236.add (((rd l1 x7_1)).toNat * 5)).off + 1, none⟩ = some (.int .i64 ((rd_T40 l0_1 (rd l1 x7_1)).f1)) ∧ w'.cell? ⟨(ad236.add (((rd l1 x7_1)).toNat * 5)).block, (ad236.add (((rd l1 x7_1)).toNat * 5)).off + 2, none⟩ = some (.bool (true)) ∧ w'.cell? ⟨(ad236.add (((rd l1 x7_1)).toNat * 5)).block, (ad236.add (((rd l1 x7_1)).toNat * 5)).off + 3, none⟩ = some (.int .i64 ((rd_T40 l0_1 (rd l1 x7_1)).f3)) ∧ w'.cell? ⟨(ad236.add (((rd l1 x7_1)).toNat * 5)).block, (ad236.add (((rd l1 x7_1)).toNat * 5)).off + 4, none⟩ = some (.int .i64 ((rd_T40 l0_1 (rd l1 x7_1)).f4))) (ds := []) (bl 30 0) (by kernel_rfl) rfl rfl ⟨(blk_cell BK232.out 0).trans rfl, (blk_cell BK232.out 1).trans rfl, (blk_cell BK232.out 2).trans rfl, (pw_cell_below HB.out hw233_0), (pw_cell_below HB.out hw235_0), (pw_cell_below HB.out hw236_0), (pw_cell_below HB.out hw236_1), (pw_cell_below HB.out hw236_2), (pw_cell_below HB.out hw236_3), (pw_cell_below HB.out hw236_4), (pw_cell_below HB.out hw237_0), (pw_cell_below HB.out hw238_0), (pw_cell_below HB.out hw238_1), (pw_cell_below HB.out hw238_2), (pw_cell_below HB.out hw238_3), (pw_cell_below HB.out hw238_4)⟩ (fun hHeld => ?_); refine with_tabW eyewitnessref22_last.tab4 eyewitnessref22_last.bits4 (fun HT_ HW_ => ?_)
           generalize wr.drew = w17 at BK232 HB hx233_0 hx235_0 hx236_0 hx236_1 hx236_2 hx236_3 hx236_4 hx237_0 hx238_0 hx238_1 hx238_2 hx238_3 hx238_4 hHeld ⊢
           refine pX 1 16 (bl 30 2) HT_ rfl rfl kA (fun _ _ _ h => h) yA hA ?_
           refine pX 2 17 (bl 30 6) HT_ rfl rfl kA (fun _ _ _ h => h) yA hA ?_
           refine pX 3 18 (bl 30 14) HT_ rfl rfl kA (fun _ _ _ h => h) yA hA ?_
           refine pT 0 15 (bl 30 15) HT_ HW_ rfl rfl kA (fun _ _ _ h => h) yS hHeld hA ?_
           refine pT 4 19 (bl 30 31) HT_ HW_ rfl rfl kA (fun _ _ _ h => h) yS hHeld hA ?_
           refine one_ (i := 5) (N := some 20) (bl 30 63) rfl rfl (one_of HT_.out (by kernel_rfl)) (by decide) (fun K hK => ?_)
           refine goes_ Try.func19 (by kernel_rfl) rfl #[.agg #[.slice A0_0 l0_0.length c0_0, .slice (some ad236) l0_1.length c0_1, .slice A0_2 l0_2.length c0_2], .int .i64 (rd l1 x7_1)] (by rfl) rfl rfl (by (try simp only [List.map_toArray, List.map_cons, List.map_nil]); first | done | rfl | (simp only [List.length_drop, List.length_take]; rfl)) ?_
           with_reducible refine (eyewitnessref22_item.calls _ _ l0_0 _ _ l0_1 _ _ l0_2 (rd l1 x7_1) true _ ?side1 ?side2 ?side3 ?side4 ?side5 ?side6 A8.out).mono ?_
           (case side1 => exact tC HR0_0)
           (case side2 => exact HC0_0.out)
           (case side3 => exact tC HR0_1)
           (case side4 => exact HC0_1.out)
           (case side5 => exact tC HR0_2)
           (case side6 => exact HC0_2.out)
           rintro e w18 ⟨rfl, hb⟩
           refine ⟨_, rfl, ?_⟩
           have n0_ := Aside0.mk (blk_below (g := gb232) tB hb)
           have n1_ := Aside0.mk (below_step tH hb)
           clear BK232
           clear HB
           have BK232 := n0_
           have HB := n1_
           clear n0_ n1_
           (try clear hb)
           (try clear hb2)
           (try clear hk)
           (try clear hi)
           refine hK.out _ _ ⟨(blk_cell BK232.out 0).trans rfl, (blk_cell BK232.out 1).trans rfl, (blk_cell BK232.out 2).trans rfl, (pw_cell_below HB.out hw233_0), (pw_cell_below HB.out hw235_0), (pw_cell_below HB.out hw236_0), (pw_cell_below HB.out hw236_1), (pw_cell_below HB.out hw236_2), (pw_cell_below HB.out hw236_3), (pw_cell_below HB.out hw236_4), (pw_cell_below HB.out hw237_0), (pw_cell_below HB.out hw238_0), (pw_cell_below HB.out hw238_1), (pw_cell_below HB.out hw238_2), (pw_cell_below HB.out hw238_3), (pw_cell_below HB.out hw238_4)⟩ (fun hHeld => ?_)
           clear hK K
           refine norm_ (a' := ?_) ?_ ?_
           rotate_left
           ·show Act.put _ (some 20) _ = _
            simp only [Act.put, List.setIfInBounds_toArray, List.set_cons_zero, List.set_cons_succ, i64_w, i32_w]
            rfl
           refine pX 6 21 (bl 30 127) HT_ rfl rfl kA (fun _ _ _ h => h) yA hA ?_
           refine pX 7 22 (bl 30 255) HT_ rfl rfl kA (fun _ _ _ h => h) yA hA ?_
           refine pX 9 24 (bl 30 767) HT_ rfl rfl kA (fun _ _ _ h => h) yA hA ?_
           refine pX 10 25 (bl 30 1791) HT_ rfl rfl kA (fun _ _ _ h => h) yA hA ?_
           refine pX 11 26 (bl 30 3839) HT_ rfl rfl kA (fun _ _ _ h => h) yA hA ?_
           refine pT 8 23 (bl 30 4095) HT_ HW_ rfl rfl kA (fun _ _ _ h => h) yS hHeld hA ?_
           refine pT 12 27 (bl 30 8191) HT_ HW_ rfl rfl kA (fun _ _ _ h => h) yS hHeld hA ?_
           refine pX 13 28 (bl 30 16383) HT_ rfl rfl kA (fun _ _ _ h => h) yA hA ?_
           refine pX 14 29 (bl 30 32767) HT_ rfl rfl kA (fun _ _ _ h => h) yA hA ?_
           refine pT 15 30 (bl 30 65535) HT_ HW_ rfl rfl kA (fun _ _ _ h => h) yS hHeld hA ?_
           refine pX 16 31 (bl 30 131071) HT_ rfl rfl kA (fun _ _ _ h => h) yA hA ?_
           refine pX 17 32 (bl 30 262143) HT_ rfl rfl kA (fun _ _ _ h => h) yA hA ?_
           refine pX 18 33 (bl 30 524287) HT_ rfl rfl kA (fun _ _ _ h => h) yA hA ?_
           refine pX 20 35 (bl 30 1572863) HT_ rfl rfl kA (fun _ _ _ h => h) yA hA ?_
           refine pX 21 36 (bl 30 3670015) HT_ rfl rfl kA (fun _ _ _ h => h) yA hA ?_
           refine pX 22 37 (bl 30 7864319) HT_ rfl rfl kA (fun _ _ _ h => h) yA hA ?_
           refine pX 27 42 (bl 30 142082047) HT_ rfl rfl kA (fun _ _ _ h => h) yA hA ?_
           refine pT 19 34 (bl 30 142606335) HT_ HW_ rfl rfl kA (fun _ _ _ h => h) yS hHeld hA ?_
           refine pT 23 38 (bl 30 150994943) HT_ HW_ rfl rfl kA (fun _ _ _ h => h) yS hHeld hA ?_
           refine pX 24 39 (bl 30 167772159) HT_ rfl rfl kA (fun _ _ _ h => h) yA hA ?_
           refine pX 25 40 (bl 30 201326591) HT_ rfl rfl kA (fun _ _ _ h => h) yA hA ?_
           refine pT 26 41 (bl 30 268435455) HT_ HW_ rfl rfl kA (fun _ _ _ h => h) yS hHeld hA ?_
           refine pX 28 43 (bl 30 536870911) HT_ rfl rfl kA (fun _ _ _ h => h) yA hA ?_
           refine pX 29 44 (bl 30 1073741823) HT_ rfl rfl kA (fun _ _ _ h => h) yA hA ?_
           refine done_ (done_of HT_.out (by kernel_rfl)) ?_
           try go_wp2
           go_roundg k1
           case measure => have := HK1.out; omega
           case rel => exact ⟨(wrap64 (x7_1 - 1)), (by first | rfl | (simp; done) | (simp [*]; done)), H', ⟨by have := HK1.out; omega⟩, ⟨by (with_reducible repeat (first | refine blk_drewN ?_ _ | refine blk_drew ?_ | refine blk_alloc ?_ _)); exact BK232.out⟩, ⟨tH⟩⟩
         ·replace c13 := Bool.eq_false_iff.mpr c13
          subst c13
          have H1 : (eyewitnessref22_last.l0 k1 l1 a2 (wrap64 (x7_1 - 1)) l0_0 l0_1 l0_2) = some r := by rw [if_neg (show ¬ (false = true) by decide)] at H; exact H
          clear H
          have H := H1
          clear H1
          have H' := Aside0.mk H
          clear H
          try go_wp2
          have n0_ := Aside0.mk (blk_drew BK232.out)
          have n1_ := Aside0.mk (below_drew1 HB.out)
          clear BK232
          clear HB
          have BK232 := n0_
          have HB := n1_
          clear n0_ n1_
          have p233 : 0 ≤ (x7_1 : Int) := of_decide_eq_true aS
          have q233 : x7_1 < (l1.length : Int) := of_decide_eq_true aS
          obtain ⟨ad233, e233, hx233_0⟩ := Kd.at_int HR1.out x7_1 p233 q233
          have hw233_0 := hx233_0
          cases e233
          replace hx233_0 := pw_cell_below HB.out hx233_0
          replace p233 := eq_true p233
          replace q233 := eq_true q233
          have p235 : 0 ≤ (x7_1 : Int) := of_decide_eq_true aS
          have q235 : x7_1 < (l1.length : Int) := of_decide_eq_true aS
          obtain ⟨ad235, e235, hx235_0⟩ := Kd.at_int HR1.out x7_1 p235 q235
          have hw235_0 := hx235_0
          obtain rfl : ad233 = ad235 := (by injection e235)
          replace hx235_0 := pw_cell_below HB.out hx235_0
          replace p235 := eq_true p235
          replace q235 := eq_true q235
          have p236 : 0 ≤ ((rd l1 x7_1) : Int) := of_decide_eq_true aS
          have q236 : (rd l1 x7_1) < (l0_1.length : Int) := of_decide_eq_true aS
          obtain ⟨ad236, e236, hx236_0, hx236_1, hx236_2, hx236_3, hx236_4⟩ := at_T40 HR0_1.out (rd l1 x7_1) p236 q236
          have hw236_4 := hx236_4
          have hw236_3 := hx236_3
          have hw236_2 := hx236_2
          have hw236_1 := hx236_1
          have hw236_0 := hx236_0
          (try rw [← Nbq12.out] at hx236_2)
          (try rw [← Nbq12.out] at hw236_2)
          cases e236
          replace hx236_0 := pw_cell_below HB.out hx236_0
          replace hx236_1 := pw_cell_below HB.out hx236_1
          replace hx236_2 := pw_cell_below HB.out hx236_2
          replace hx236_3 := pw_cell_below HB.out hx236_3
          replace hx236_4 := pw_cell_below HB.out hx236_4
          replace p236 := eq_true p236
          replace q236 := eq_true q236
          refine start_ (n := 30) (S := fun w' => w'.cell? ⟨gb232, 0, none⟩ = some (.slice A0_0 l0_0.length c0_0) ∧ w'.cell? ⟨gb232, 1, none⟩ = some (.slice (some ad236) l0_1.length c0_1) ∧ w'.cell? ⟨gb232, 2, none⟩ = some (.slice A0_2 l0_2.length c0_2) ∧ w'.cell? (ad233.add (x7_1).toNat) = some (.int .i64 (rd l1 x7_1)) ∧ w'.cell? (ad233.add (x7_1).toNat) = some (.int .i64 (rd l1 x7_1)) ∧ w'.cell? (ad236.add (((rd l1 x7_1)).toNat * 5)) = some (.int .i64 ((rd_T40 l0_1 (rd l1 x7_1)).f0)) ∧ w'.cell? ⟨(ad236.add (((rd l1 x7_1)).toNat * 5)).block, (ad236.add (((rd l1 x7_1)).toNat * 5)).off + 1, none⟩ = some (.int .i64 ((rd_T40 l0_1 (rd l1 x7_1)).f1)) ∧ w'.cell? ⟨(ad236.add (((rd l1 x7_1)).toNat * 5)).block, (ad236.add (((rd l1 x7_1)).toNat * 5)).off + 2, none⟩ = some (.bool false) ∧ w'.cell? ⟨(ad236.add (((rd l1 x7_1)).toNat * 5)).block, (ad236.add (((rd l1 x7_1)).toNat * 5)).off + 3, none⟩ = some (.int .i64 ((rd_T40 l0_1 (rd l1 x7_1)).f3)) ∧ w'.cell? ⟨(ad236.add (((rd l1 x7_1)).toNat * 5)).block, (ad236.add (((rd l1 x7_1)).toNat * 5)).off + 4, none⟩ = some (.int .i64 ((rd_T40 l0_1 (rd l1 x7_1)).f4))) (ds := []) (bl 30 0) (by kernel_rfl) rfl rfl ⟨(blk_cell BK232.out 0).trans rfl, (blk_cell BK232.out 1).trans rfl, (blk_cell BK232.out 2).trans rfl, (pw_cell_below HB.out hw233_0), (pw_cell_below HB.out hw235_0), (pw_cell_below HB.out hw236_0), (pw_cell_below HB.out hw236_1), (pw_cell_below HB.out hw236_2), (pw_cell_below HB.out hw236_3), (pw_cell_below HB.out hw236_4)⟩ (fun hHeld => ?_); refine with_tabW eyewitnessref22_last.tab4 eyewitnessref22_last.bits4 (fun HT_ HW_ => ?_)
          generalize wr.drew = w19 at BK232 HB hx233_0 hx235_0 hx236_0 hx236_1 hx236_2 hx236_3 hx236_4 hHeld ⊢
          refine pX 1 16 (bl 30 2) HT_ rfl rfl kA (fun _ _ _ h => h) yA hA ?_
          refine pX 2 17 (bl 30 6) HT_ rfl rfl kA (fun _ _ _ h => h) yA hA ?_
          refine pX 3 18 (bl 30 14) HT_ rfl rfl kA (fun _ _ _ h => h) yA hA ?_
          refine pT 0 15 (bl 30 15) HT_ HW_ rfl rfl kA (fun _ _ _ h => h) yS hHeld hA ?_
          refine pT 4 19 (bl 30 31) HT_ HW_ rfl rfl kA (fun _ _ _ h => h) yS hHeld hA ?_
          refine one_ (i := 5) (N := some 20) (bl 30 63) rfl rfl (one_of HT_.out (by kernel_rfl)) (by decide) (fun K hK => ?_)
          refine goes_ Try.func19 (by kernel_rfl) rfl #[.agg #[.slice A0_0 l0_0.length c0_0, .slice (some ad236) l0_1.length c0_1, .slice A0_2 l0_2.length c0_2], .int .i64 (rd l1 x7_1)] (by rfl) rfl rfl (by (try simp only [List.map_toArray, List.map_cons, List.map_nil]); first | done | rfl | (simp only [List.length_drop, List.length_take]; rfl)) ?_
          with_reducible refine (eyewitnessref22_item.calls _ _ l0_0 _ _ l0_1 _ _ l0_2 (rd l1 x7_1) true _ ?side1 ?side2 ?side3 ?side4 ?side5 ?side6 A8.out).mono ?_
          (case side1 => exact tC HR0_0)
          (case side2 => exact HC0_0.out)
          (case side3 => exact tC HR0_1)
          (case side4 => exact HC0_1.out)
          (case side5 => exact tC HR0_2)
          (case side6 => exact HC0_2.out)
          rintro e w20 ⟨rfl, hb⟩
          refine ⟨_, rfl, ?_⟩
          have n0_ := Aside0.mk (blk_below (g := gb232) tB hb)
          have n1_ := Aside0.mk (below_step tH hb)
          clear BK232
          clear HB
          have BK232 := n0_
          have HB := n1_
          clear n0_ n1_
          (try clear hb)
          (try clear hb2)
          (try clear hk)
          (try clear hi)
          refine hK.out _ _ ⟨(blk_cell BK232.out 0).trans rfl, (blk_cell BK232.out 1).trans rfl, (blk_cell BK232.out 2).trans rfl, (pw_cell_below HB.out hw233_0), (pw_cell_below HB.out hw235_0), (pw_cell_below HB.out hw236_0), (pw_cell_below HB.out hw236_1), (pw_cell_below HB.out hw236_2), (pw_cell_below HB.out hw236_3), (pw_cell_below HB.out hw236_4)⟩ (fun hHeld => ?_)
          clear hK K
          refine norm_ (a' := ?_) ?_ ?_
          rotate_left
          ·show Act.put _ (some 20) _ = _
           simp only [Act.put, List.setIfInBounds_toArray, List.set_cons_zero, List.set_cons_succ, i64_w, i32_w]
           rfl
          refine pX 6 21 (bl 30 127) HT_ rfl rfl kA (fun _ _ _ h => h) yA hA ?_
          refine pX 7 22 (bl 30 255) HT_ rfl rfl kA (fun _ _ _ h => h) yA hA ?_
          refine pX 9 24 (bl 30 767) HT_ rfl rfl kA (fun _ _ _ h => h) yA hA ?_
          refine pX 10 25 (bl 30 1791) HT_ rfl rfl kA (fun _ _ _ h => h) yA hA ?_
          refine pX 11 26 (bl 30 3839) HT_ rfl rfl kA (fun _ _ _ h => h) yA hA ?_
          refine pT 8 23 (bl 30 4095) HT_ HW_ rfl rfl kA (fun _ _ _ h => h) yS hHeld hA ?_
          refine pT 12 27 (bl 30 8191) HT_ HW_ rfl rfl kA (fun _ _ _ h => h) yS hHeld hA ?_
          refine pX 13 28 (bl 30 16383) HT_ rfl rfl kA (fun _ _ _ h => h) yA hA ?_
          refine pX 14 29 (bl 30 32767) HT_ rfl rfl kA (fun _ _ _ h => h) yA hA ?_
          refine pT 15 30 (bl 30 65535) HT_ HW_ rfl rfl kA (fun _ _ _ h => h) yS hHeld hA ?_
          refine pX 16 31 (bl 30 131071) HT_ rfl rfl kA (fun _ _ _ h => h) yA hA ?_
          refine pX 17 32 (bl 30 262143) HT_ rfl rfl kA (fun _ _ _ h => h) yA hA ?_
          refine pU 18 33 (bl 30 524287) HT_ rfl rfl kA (fun _ _ _ h => h) (by rfl) hA ?_
          refine pU 19 34 (bl 30 1048575) HT_ rfl rfl kA (fun _ _ _ h => h) (by rfl) hA ?_
          refine pU 20 35 (bl 30 2097151) HT_ rfl rfl kA (fun _ _ _ h => h) (by rfl) hA ?_
          refine pU 21 36 (bl 30 4194303) HT_ rfl rfl kA (fun _ _ _ h => h) (by rfl) hA ?_
          refine pU 22 37 (bl 30 8388607) HT_ rfl rfl kA (fun _ _ _ h => h) (by rfl) hA ?_
          refine pU 23 38 (bl 30 16777215) HT_ rfl rfl kA (fun _ _ _ h => h) (by rfl) hA ?_
          refine pU 24 39 (bl 30 33554431) HT_ rfl rfl kA (fun _ _ _ h => h) (by rfl) hA ?_
          refine pU 25 40 (bl 30 67108863) HT_ rfl rfl kA (fun _ _ _ h => h) (by rfl) hA ?_
          refine pU 26 41 (bl 30 134217727) HT_ rfl rfl kA (fun _ _ _ h => h) (by rfl) hA ?_
          refine pU 27 42 (bl 30 268435455) HT_ rfl rfl kA (fun _ _ _ h => h) (by rfl) hA ?_
          refine pU 28 43 (bl 30 536870911) HT_ rfl rfl kA (fun _ _ _ h => h) (by rfl) hA ?_
          refine pX 29 44 (bl 30 1073741823) HT_ rfl rfl kA (fun _ _ _ h => h) yA hA ?_
          refine done_ (done_of HT_.out (by kernel_rfl)) ?_
          try go_wp2
          go_roundg k1
          case measure => have := HK1.out; omega
          case rel => exact ⟨(wrap64 (x7_1 - 1)), (by first | rfl | (simp; done) | (simp [*]; done)), H', ⟨by have := HK1.out; omega⟩, ⟨by (with_reducible repeat (first | refine blk_drewN ?_ _ | refine blk_drew ?_ | refine blk_alloc ?_ _)); exact BK232.out⟩, ⟨tH⟩⟩
        ·rw [if_neg c11] at H
         exact absurd H (by simp)
       ·rw [if_neg c10] at H
        exact absurd H (by simp)
      ·replace c9 := Bool.eq_false_iff.mpr c9
       subst c9
       have H1 : (eyewitnessref22_last.l0 k1 l1 a2 (wrap64 (x7_1 - 1)) l0_0 l0_1 l0_2) = some r := by rw [if_neg (show ¬ (false = true) by decide)] at H; exact H
       clear H
       have H := H1
       clear H1
       have H' := Aside0.mk H
       clear H
       try go_wp2
       have n0_ := Aside0.mk (blk_drew BK232.out)
       have n1_ := Aside0.mk (below_drew1 HB.out)
       clear BK232
       clear HB
       have BK232 := n0_
       have HB := n1_
       clear n0_ n1_
       have p233 : 0 ≤ (x7_1 : Int) := of_decide_eq_true aS
       have q233 : x7_1 < (l1.length : Int) := of_decide_eq_true aS
       obtain ⟨ad233, e233, hx233_0⟩ := Kd.at_int HR1.out x7_1 p233 q233
       have hw233_0 := hx233_0
       cases e233
       replace hx233_0 := pw_cell_below HB.out hx233_0
       replace p233 := eq_true p233
       replace q233 := eq_true q233
       refine start_ (n := 30) (S := fun w' => w'.cell? ⟨gb232, 0, none⟩ = some (.slice A0_0 l0_0.length c0_0) ∧ w'.cell? ⟨gb232, 1, none⟩ = some (.slice A0_1 l0_1.length c0_1) ∧ w'.cell? ⟨gb232, 2, none⟩ = some (.slice A0_2 l0_2.length c0_2) ∧ w'.cell? (ad233.add (x7_1).toNat) = some (.int .i64 (rd l1 x7_1))) (ds := []) (bl 30 0) (by kernel_rfl) rfl rfl ⟨(blk_cell BK232.out 0).trans rfl, (blk_cell BK232.out 1).trans rfl, (blk_cell BK232.out 2).trans rfl, (pw_cell_below HB.out hw233_0)⟩ (fun hHeld => ?_); refine with_tabW eyewitnessref22_last.tab4 eyewitnessref22_last.bits4 (fun HT_ HW_ => ?_)
       generalize wr.drew = w21 at BK232 HB hx233_0 hHeld ⊢
       refine pX 1 16 (bl 30 2) HT_ rfl rfl kA (fun _ _ _ h => h) yA hA ?_
       refine pX 2 17 (bl 30 6) HT_ rfl rfl kA (fun _ _ _ h => h) yA hA ?_
       refine pX 3 18 (bl 30 14) HT_ rfl rfl kA (fun _ _ _ h => h) yA hA ?_
       refine pT 0 15 (bl 30 15) HT_ HW_ rfl rfl kA (fun _ _ _ h => h) yS hHeld hA ?_
       refine pT 4 19 (bl 30 31) HT_ HW_ rfl rfl kA (fun _ _ _ h => h) yS hHeld hA ?_
       refine one_ (i := 5) (N := some 20) (bl 30 63) rfl rfl (one_of HT_.out (by kernel_rfl)) (by decide) (fun K hK => ?_)
       refine goes_ Try.func19 (by kernel_rfl) rfl #[.agg #[.slice A0_0 l0_0.length c0_0, .slice A0_1 l0_1.length c0_1, .slice A0_2 l0_2.length c0_2], .int .i64 (rd l1 x7_1)] (by rfl) rfl rfl (by (try simp only [List.map_toArray, List.map_cons, List.map_nil]); first | done | rfl | (simp only [List.length_drop, List.length_take]; rfl)) ?_
       with_reducible refine (eyewitnessref22_item.calls _ _ l0_0 _ _ l0_1 _ _ l0_2 (rd l1 x7_1) false _ ?side1 ?side2 ?side3 ?side4 ?side5 ?side6 A8.out).mono ?_
       (case side1 => exact tC HR0_0)
       (case side2 => exact HC0_0.out)
       (case side3 => exact tC HR0_1)
       (case side4 => exact HC0_1.out)
       (case side5 => exact tC HR0_2)
       (case side6 => exact HC0_2.out)
       rintro e w22 ⟨rfl, hb⟩
       refine ⟨_, rfl, ?_⟩
       have n0_ := Aside0.mk (blk_below (g := gb232) tB hb)
       have n1_ := Aside0.mk (below_step tH hb)
       clear BK232
       clear HB
       have BK232 := n0_
       have HB := n1_
       clear n0_ n1_
       (try clear hb)
       (try clear hb2)
       (try clear hk)
       (try clear hi)
       refine hK.out _ _ ⟨(blk_cell BK232.out 0).trans rfl, (blk_cell BK232.out 1).trans rfl, (blk_cell BK232.out 2).trans rfl, (pw_cell_below HB.out hw233_0)⟩ (fun hHeld => ?_)
       clear hK K
       refine norm_ (a' := ?_) ?_ ?_
       rotate_left
       ·show Act.put _ (some 20) _ = _
        simp only [Act.put, List.setIfInBounds_toArray, List.set_cons_zero, List.set_cons_succ, i64_w, i32_w]
        rfl
       refine pX 6 21 (bl 30 127) HT_ rfl rfl kA (fun _ _ _ h => h) yA hA ?_
       refine pU 7 22 (bl 30 255) HT_ rfl rfl kA (fun _ _ _ h => h) (by rfl) hA ?_
       refine pU 8 23 (bl 30 511) HT_ rfl rfl kA (fun _ _ _ h => h) (by rfl) hA ?_
       refine pU 9 24 (bl 30 1023) HT_ rfl rfl kA (fun _ _ _ h => h) (by rfl) hA ?_
       refine pU 10 25 (bl 30 2047) HT_ rfl rfl kA (fun _ _ _ h => h) (by rfl) hA ?_
       refine pU 11 26 (bl 30 4095) HT_ rfl rfl kA (fun _ _ _ h => h) (by rfl) hA ?_
       refine pU 12 27 (bl 30 8191) HT_ rfl rfl kA (fun _ _ _ h => h) (by rfl) hA ?_
       refine pU 13 28 (bl 30 16383) HT_ rfl rfl kA (fun _ _ _ h => h) (by rfl) hA ?_
       refine pU 14 29 (bl 30 32767) HT_ rfl rfl kA (fun _ _ _ h => h) (by rfl) hA ?_
       refine pU 15 30 (bl 30 65535) HT_ rfl rfl kA (fun _ _ _ h => h) (by rfl) hA ?_
       refine pX 16 31 (bl 30 131071) HT_ rfl rfl kA (fun _ _ _ h => h) yA hA ?_
       refine pX 17 32 (bl 30 262143) HT_ rfl rfl kA (fun _ _ _ h => h) yA hA ?_
       refine pU 18 33 (bl 30 524287) HT_ rfl rfl kA (fun _ _ _ h => h) (by rfl) hA ?_
       refine pU 19 34 (bl 30 1048575) HT_ rfl rfl kA (fun _ _ _ h => h) (by rfl) hA ?_
       refine pU 20 35 (bl 30 2097151) HT_ rfl rfl kA (fun _ _ _ h => h) (by rfl) hA ?_
       refine pU 21 36 (bl 30 4194303) HT_ rfl rfl kA (fun _ _ _ h => h) (by rfl) hA ?_
       refine pU 22 37 (bl 30 8388607) HT_ rfl rfl kA (fun _ _ _ h => h) (by rfl) hA ?_
       refine pU 23 38 (bl 30 16777215) HT_ rfl rfl kA (fun _ _ _ h => h) (by rfl) hA ?_
       refine pU 24 39 (bl 30 33554431) HT_ rfl rfl kA (fun _ _ _ h => h) (by rfl) hA ?_
       refine pU 25 40 (bl 30 67108863) HT_ rfl rfl kA (fun _ _ _ h => h) (by rfl) hA ?_
       refine pU 26 41 (bl 30 134217727) HT_ rfl rfl kA (fun _ _ _ h => h) (by rfl) hA ?_
       refine pU 27 42 (bl 30 268435455) HT_ rfl rfl kA (fun _ _ _ h => h) (by rfl) hA ?_
       refine pU 28 43 (bl 30 536870911) HT_ rfl rfl kA (fun _ _ _ h => h) (by rfl) hA ?_
       refine pX 29 44 (bl 30 1073741823) HT_ rfl rfl kA (fun _ _ _ h => h) yA hA ?_
       refine done_ (done_of HT_.out (by kernel_rfl)) ?_
       try go_wp2
       go_roundg k1
       case measure => have := HK1.out; omega
       case rel => exact ⟨(wrap64 (x7_1 - 1)), (by first | rfl | (simp; done) | (simp [*]; done)), H', ⟨by have := HK1.out; omega⟩, ⟨by (with_reducible repeat (first | refine blk_drewN ?_ _ | refine blk_drew ?_ | refine blk_alloc ?_ _)); exact BK232.out⟩, ⟨tH⟩⟩
     ·rw [if_neg c7] at H
      exact absurd H (by simp)
    ·rw [if_neg c6] at H
     exact absurd H (by simp)
   ·rw [if_neg c5] at H
    have c5b0 : decide (0 ≤ x7_1) = false := decide_eq_false c5
    clear c5
    obtain rfl := Option.some.inj H
    go_wp2
    go_ret
    exact ⟨by first | rfl | (simp [errW_none, errW_some] <;> rfl) | (simp [*, errW_none, errW_some] <;> rfl), tH⟩

end Go.Proofs.Ytcnjnollmamifaa.P
