-- written by a program (wip/tools/pr.py: the kit's print over this seat)
import Derived.Test.YtcnjnollmamifaaPKinds
namespace Go.Proofs.Ytcnjnollmamifaa.P
open Go.RowKit Go.Proofs.YtcnjnollmamifaaW.PrintWords Go.Proofs.YtcnjnollmamifaaW.PrintLast Go.Proofs.YtcnjnollmamifaaW.PrintMore
attribute [local go_sem] max2_int min2_int max_two min_two max_three min_three max_four min_four   -- for this text's walks alone
set_option linter.unusedVariables false
set_option linter.unusedSimpArgs false

/-! ### eyewitnessref10_Write: function 24 -/
def eyewitnessref10_Write.l0 : Nat → Int → Int → Int → List ByteArray → List (S40) → List Int → Option (Int × Bool)
 | 0, _, _, _, _, _, _ => none
 | k + 1, x1, x2, x8, x137000, x137001, x137002 => if x8 < (x137001.length : Int) then (if 0 ≤ x8 then (if (rd_T40 x137001 x8).f2 = true then (if ((rd_T40 x137001 x8).f3) = x1 then (if ((rd_T40 x137001 x8).f4) = x2 then (some (x8, true)) else (eyewitnessref10_Write.l0 k x1 x2 (wrap64 (x8 + 1)) x137000 x137001 x137002)) else (eyewitnessref10_Write.l0 k x1 x2 (wrap64 (x8 + 1)) x137000 x137001 x137002)) else (eyewitnessref10_Write.l0 k x1 x2 (wrap64 (x8 + 1)) x137000 x137001 x137002)) else (none)) else (some (0, false))
def eyewitnessref10_Write.f (k : Nat) (l0_0 : List ByteArray) (l0_1 : List (S40)) (l0_2 : List Int) (a1 : Int) (a2 : Int) : Option (Int × Bool) := eyewitnessref10_Write.l0 k a1 a2 0 l0_0 l0_1 l0_2
theorem eyewitnessref10_Write.mono_l : ∀ k, (∀ y0 y1 y2 y3 y4 y5, LeO (eyewitnessref10_Write.l0 k y0 y1 y2 y3 y4 y5) (eyewitnessref10_Write.l0 (k + 1) y0 y1 y2 y3 y4 y5))
 | 0 => fun _ _ _ _ _ _ r h => by simp [eyewitnessref10_Write.l0] at h
 | k + 1 => by
  have ih0 := eyewitnessref10_Write.mono_l k
  ·intro y0 y1 y2 y3 y4 y5
   unfold eyewitnessref10_Write.l0
   repeat' first
   | (with_reducible exact ih0 _ _ _ _ _ _)
   | (with_reducible exact LeO.refl _)
   | (with_reducible exact LeO.none _)
   | (with_reducible refine LeO.ite ?_ ?_)
   | (with_reducible refine LeO.bind ?_ (fun _ => ?_))
   | exact ih0 _ _ _ _ _ _
   | exact LeO.none _
   | refine LeO.ite ?_ ?_
   | refine LeO.bind ?_ (fun _ => ?_)
theorem eyewitnessref10_Write.mono : ∀ a0 a1 a2 a3 a4 k, LeO (eyewitnessref10_Write.f k a0 a1 a2 a3 a4) (eyewitnessref10_Write.f (k + 1) a0 a1 a2 a3 a4) := by
 intro a0 a1 a2 a3 a4 k
 have ih0 := eyewitnessref10_Write.mono_l k
 unfold eyewitnessref10_Write.f
 repeat' first
   | (with_reducible exact ih0 _ _ _ _ _ _)
   | (with_reducible exact LeO.refl _)
   | (with_reducible exact LeO.none _)
   | (with_reducible refine LeO.ite ?_ ?_)
   | (with_reducible refine LeO.bind ?_ (fun _ => ?_))
   | exact ih0 _ _ _ _ _ _
   | exact LeO.none _
   | refine LeO.ite ?_ ?_
   | refine LeO.bind ?_ (fun _ => ?_)
set_option maxHeartbeats 8000000 in
set_option maxRecDepth 100000 in
theorem eyewitnessref10_Write.calls (k : Nat) (A0_0 : Option Addr) (c0_0 : Nat) (l0_0 : List ByteArray) (A0_1 : Option Addr) (c0_1 : Nat) (l0_1 : List (S40)) (A0_2 : Option Addr) (c0_2 : Nat) (l0_2 : List Int) (a1 : Int) (a2 : Int) (r1 : Int) (r2 : Bool) (w : World) (hr0_0 : Kd.C Kd.string w A0_0 l0_0.length l0_0) (hc0_0 : l0_0.length ≤ c0_0) (hr0_1 : Kd.C k40 w A0_1 l0_1.length l0_1) (hc0_1 : l0_1.length ≤ c0_1) (hr0_2 : Kd.C (Kd.int .i64) w A0_2 l0_2.length l0_2) (hc0_2 : l0_2.length ≤ c0_2) (h : eyewitnessref10_Write.f k l0_0 l0_1 l0_2 a1 a2 = some (r1, r2)) :
  Calls Try.prog 24 #[.agg #[.slice A0_0 l0_0.length c0_0, .slice A0_1 l0_1.length c0_1, .slice A0_2 l0_2.length c0_2], .int .i64 a1, .int .i64 a2] w fun e w' => e = .returned (.tuple #[.int .i64 r1, .bool r2]) ∧ Below w.heap.size w w' := by
 have hu31 := Try.underlying31
 have HR0_0 := Aside0.mk hr0_0
 have HC0_0 := Aside0.mk hc0_0
 clear hr0_0 hc0_0
 have HR0_1 := Aside0.mk hr0_1
 have HC0_1 := Aside0.mk hc0_1
 clear hr0_1 hc0_1
 have HR0_2 := Aside0.mk hr0_2
 have HC0_2 := Aside0.mk hc0_2
 clear hr0_2 hc0_2
 have HB := Aside0.mk (Below.refl w.heap.size w)
 have H : (eyewitnessref10_Write.l0 k a1 a2 0 l0_0 l0_1 l0_2) = some (r1, r2) := h
 clear h
 have H' := Aside0.mk H
 clear H
 go_enter Try.func24, Try.ntmps24
 go_wp2_with (first | ((with_reducible refine gate_dst (N := 3) rfl ?_); refine box_event ?hg (N := 3) ?hd (cs := #[.slice A0_0 l0_0.length c0_0, .slice A0_1 l0_1.length c0_1, .slice A0_2 l0_2.length c0_2]) (t := 31) ?hr ?_; (case hd => rfl); (case hg => rfl); (case hr => first | (go_simp; done) | (go_simp; rfl)); intro gb136 hg w4 hbox hb; have n0_ := Aside0.mk (below_step tH hb); have n1_ := Aside0.mk (hbox); have n2_ := Aside0.mk ((by rw [hg]; exact (below_size tH) : w.heap.size ≤ gb136)); have n3_ := Aside0.mk ((by rw [hg]; exact (below_size tH) : w.heap.size ≤ gb136)); clear HB; have HB := n0_; have BK136 := n1_; have GW136 := n2_; have GE136 := n3_; clear n0_ n1_ n2_ n3_; clear hb hbox hg))
 go_loopg [8] k (fun kq v8 w' => ∃ (x8_1 : Int), v8 = .int .i64 x8_1 ∧ Aside0 (eyewitnessref10_Write.l0 kq a1 a2 x8_1 l0_0 l0_1 l0_2 = some (r1, r2)) ∧ Aside0 (kq ≤ k) ∧ Aside0 (w'.heap[gb136]? = some (.cells #[(.slice A0_0 l0_0.length c0_0), (.slice A0_1 l0_1.length c0_1), (.slice A0_2 l0_2.length c0_2)] 31 (0, 0))) ∧ Aside0 (Below w.heap.size w w'))
 case atStart => exact ⟨(0), (by first | rfl | (simp; done) | (simp [*]; done)), H', ⟨Nat.le_refl _⟩, ⟨by (with_reducible repeat (first | refine blk_drewN ?_ _ | refine blk_drew ?_ | refine blk_alloc ?_ _)); exact BK136.out⟩, ⟨tH⟩⟩
 case round =>
  clear H'
  try clear c2
  try clear p2
  obtain ⟨x8_1, rfl, HA, HK1, BK136, HB⟩ := hrel
  cases gk with
  | zero => exact absurd HA.out (by simp [eyewitnessref10_Write.l0])
  | succ k1 =>
   have H := HA.out
   clear HA
   simp only [eyewitnessref10_Write.l0] at H
   by_cases c5 : x8_1 < (l0_1.length : Int)
   ·rw [if_pos c5] at H
    have c5b0 : decide (x8_1 < (l0_1.length : Int)) = true := decide_eq_true c5
    clear c5
    by_cases c6 : 0 ≤ x8_1
    ·rw [if_pos c6] at H
     have c6b0 : decide (0 ≤ x8_1) = true := decide_eq_true c6
     clear c6
     obtain ⟨bq7, hbq7⟩ : ∃ b_ : Bool, b_ = ((rd_T40 l0_1 x8_1).f2) := ⟨_, rfl⟩
     replace H : (if bq7 = true then (if ((rd_T40 l0_1 x8_1).f3) = a1 then (if ((rd_T40 l0_1 x8_1).f4) = a2 then (some (x8_1, true)) else (eyewitnessref10_Write.l0 k1 a1 a2 (wrap64 (x8_1 + 1)) l0_0 l0_1 l0_2)) else (eyewitnessref10_Write.l0 k1 a1 a2 (wrap64 (x8_1 + 1)) l0_0 l0_1 l0_2)) else (eyewitnessref10_Write.l0 k1 a1 a2 (wrap64 (x8_1 + 1)) l0_0 l0_1 l0_2)) = some (r1, r2) := by rw [← hbq7] at H; exact H
     have Nbq7 := Aside0.mk hbq7
     clear hbq7
     by_cases c8 : bq7 = true
     ·subst c8
      have H1 : (if ((rd_T40 l0_1 x8_1).f3) = a1 then (if ((rd_T40 l0_1 x8_1).f4) = a2 then (some (x8_1, true)) else (eyewitnessref10_Write.l0 k1 a1 a2 (wrap64 (x8_1 + 1)) l0_0 l0_1 l0_2)) else (eyewitnessref10_Write.l0 k1 a1 a2 (wrap64 (x8_1 + 1)) l0_0 l0_1 l0_2)) = some (r1, r2) := by rw [if_pos rfl] at H; exact H
      clear H
      have H := H1
      clear H1
      by_cases c9 : ((rd_T40 l0_1 x8_1).f3) = a1
      ·rw [if_pos c9] at H
       have c9b0 : (((rd_T40 l0_1 x8_1).f3) == a1) = true := beq_iff_eq.mpr c9
       have c9b1 : (((rd_T40 l0_1 x8_1).f3) != a1) = false := bne_eq_false_iff_eq.mpr c9
       clear c9
       by_cases c10 : ((rd_T40 l0_1 x8_1).f4) = a2
       ·rw [if_pos c10] at H
        have c10b0 : (((rd_T40 l0_1 x8_1).f4) == a2) = true := beq_iff_eq.mpr c10
        have c10b1 : (((rd_T40 l0_1 x8_1).f4) != a2) = false := bne_eq_false_iff_eq.mpr c10
        clear c10
        simp only [Option.some.injEq, Prod.mk.injEq] at H
        obtain ⟨rfl, rfl⟩ := H
        have hcz11_0 : wr.cell? ⟨gb136, 0, none⟩ = some (.slice A0_0 l0_0.length c0_0) := (blk_cell BK136.out 0).trans rfl
        have hcz11_1 : wr.cell? ⟨gb136, 1, none⟩ = some (.slice A0_1 l0_1.length c0_1) := (blk_cell BK136.out 1).trans rfl
        have hcz11_2 : wr.cell? ⟨gb136, 2, none⟩ = some (.slice A0_2 l0_2.length c0_2) := (blk_cell BK136.out 2).trans rfl
        have hfz11_0 := blk_frozen BK136.out 0
        have hfz11_1 := blk_frozen BK136.out 1
        have hfz11_2 := blk_frozen BK136.out 2
        have p137 : 0 ≤ (x8_1 : Int) := of_decide_eq_true aS
        have q137 : x8_1 < (l0_1.length : Int) := of_decide_eq_true aS
        obtain ⟨ad137, e137, hx137_0, hx137_1, hx137_2, hx137_3, hx137_4⟩ := at_T40 HR0_1.out x8_1 p137 q137
        (try rw [← Nbq7.out] at hx137_2)
        cases e137
        replace hx137_0 := pw_cell_below HB.out hx137_0
        replace hx137_1 := pw_cell_below HB.out hx137_1
        replace hx137_2 := pw_cell_below HB.out hx137_2
        replace hx137_3 := pw_cell_below HB.out hx137_3
        replace hx137_4 := pw_cell_below HB.out hx137_4
        replace p137 := eq_true p137
        replace q137 := eq_true q137
        have p138 : 0 ≤ (x8_1 : Int) := of_decide_eq_true aS
        have q138 : x8_1 < (l0_1.length : Int) := of_decide_eq_true aS
        obtain ⟨ad138, e138, hx138_0, hx138_1, hx138_2, hx138_3, hx138_4⟩ := at_T40 HR0_1.out x8_1 p138 q138
        (try rw [← Nbq7.out] at hx138_2)
        obtain rfl : ad137 = ad138 := (by injection e138)
        replace hx138_0 := pw_cell_below HB.out hx138_0
        replace hx138_1 := pw_cell_below HB.out hx138_1
        replace hx138_2 := pw_cell_below HB.out hx138_2
        replace hx138_3 := pw_cell_below HB.out hx138_3
        replace hx138_4 := pw_cell_below HB.out hx138_4
        replace p138 := eq_true p138
        replace q138 := eq_true q138
        have p139 : 0 ≤ (x8_1 : Int) := of_decide_eq_true aS
        have q139 : x8_1 < (l0_1.length : Int) := of_decide_eq_true aS
        obtain ⟨ad139, e139, hx139_0, hx139_1, hx139_2, hx139_3, hx139_4⟩ := at_T40 HR0_1.out x8_1 p139 q139
        (try rw [← Nbq7.out] at hx139_2)
        obtain rfl : ad137 = ad139 := (by injection e139)
        replace hx139_0 := pw_cell_below HB.out hx139_0
        replace hx139_1 := pw_cell_below HB.out hx139_1
        replace hx139_2 := pw_cell_below HB.out hx139_2
        replace hx139_3 := pw_cell_below HB.out hx139_3
        replace hx139_4 := pw_cell_below HB.out hx139_4
        replace p139 := eq_true p139
        replace q139 := eq_true q139
        go_wp2
        go_ret2
        exact ⟨by first | rfl | (simp [errW_none, errW_some] <;> rfl) | (simp [*, errW_none, errW_some] <;> rfl), tH⟩
       ·rw [if_neg c10] at H
        have c10b0 : (((rd_T40 l0_1 x8_1).f4) == a2) = false := beq_eq_false_iff_ne.mpr c10
        have c10b1 : (((rd_T40 l0_1 x8_1).f4) != a2) = true := bne_iff_ne.mpr c10
        have H' := Aside0.mk H
        clear H
        have hcz12_0 : wr.cell? ⟨gb136, 0, none⟩ = some (.slice A0_0 l0_0.length c0_0) := (blk_cell BK136.out 0).trans rfl
        have hcz12_1 : wr.cell? ⟨gb136, 1, none⟩ = some (.slice A0_1 l0_1.length c0_1) := (blk_cell BK136.out 1).trans rfl
        have hcz12_2 : wr.cell? ⟨gb136, 2, none⟩ = some (.slice A0_2 l0_2.length c0_2) := (blk_cell BK136.out 2).trans rfl
        have hfz12_0 := blk_frozen BK136.out 0
        have hfz12_1 := blk_frozen BK136.out 1
        have hfz12_2 := blk_frozen BK136.out 2
        have p137 : 0 ≤ (x8_1 : Int) := of_decide_eq_true aS
        have q137 : x8_1 < (l0_1.length : Int) := of_decide_eq_true aS
        obtain ⟨ad137, e137, hx137_0, hx137_1, hx137_2, hx137_3, hx137_4⟩ := at_T40 HR0_1.out x8_1 p137 q137
        (try rw [← Nbq7.out] at hx137_2)
        cases e137
        replace hx137_0 := pw_cell_below HB.out hx137_0
        replace hx137_1 := pw_cell_below HB.out hx137_1
        replace hx137_2 := pw_cell_below HB.out hx137_2
        replace hx137_3 := pw_cell_below HB.out hx137_3
        replace hx137_4 := pw_cell_below HB.out hx137_4
        replace p137 := eq_true p137
        replace q137 := eq_true q137
        have p138 : 0 ≤ (x8_1 : Int) := of_decide_eq_true aS
        have q138 : x8_1 < (l0_1.length : Int) := of_decide_eq_true aS
        obtain ⟨ad138, e138, hx138_0, hx138_1, hx138_2, hx138_3, hx138_4⟩ := at_T40 HR0_1.out x8_1 p138 q138
        (try rw [← Nbq7.out] at hx138_2)
        obtain rfl : ad137 = ad138 := (by injection e138)
        replace hx138_0 := pw_cell_below HB.out hx138_0
        replace hx138_1 := pw_cell_below HB.out hx138_1
        replace hx138_2 := pw_cell_below HB.out hx138_2
        replace hx138_3 := pw_cell_below HB.out hx138_3
        replace hx138_4 := pw_cell_below HB.out hx138_4
        replace p138 := eq_true p138
        replace q138 := eq_true q138
        have p139 : 0 ≤ (x8_1 : Int) := of_decide_eq_true aS
        have q139 : x8_1 < (l0_1.length : Int) := of_decide_eq_true aS
        obtain ⟨ad139, e139, hx139_0, hx139_1, hx139_2, hx139_3, hx139_4⟩ := at_T40 HR0_1.out x8_1 p139 q139
        (try rw [← Nbq7.out] at hx139_2)
        obtain rfl : ad137 = ad139 := (by injection e139)
        replace hx139_0 := pw_cell_below HB.out hx139_0
        replace hx139_1 := pw_cell_below HB.out hx139_1
        replace hx139_2 := pw_cell_below HB.out hx139_2
        replace hx139_3 := pw_cell_below HB.out hx139_3
        replace hx139_4 := pw_cell_below HB.out hx139_4
        replace p139 := eq_true p139
        replace q139 := eq_true q139
        go_wp2
        go_roundg k1
        case measure => have := HK1.out; omega
        case rel => exact ⟨(wrap64 (x8_1 + 1)), (by first | rfl | (simp; done) | (simp [*]; done)), H', ⟨by have := HK1.out; omega⟩, ⟨by (with_reducible repeat (first | refine blk_drewN ?_ _ | refine blk_drew ?_ | refine blk_alloc ?_ _)); exact BK136.out⟩, ⟨tH⟩⟩
      ·rw [if_neg c9] at H
       have c9b0 : (((rd_T40 l0_1 x8_1).f3) == a1) = false := beq_eq_false_iff_ne.mpr c9
       have c9b1 : (((rd_T40 l0_1 x8_1).f3) != a1) = true := bne_iff_ne.mpr c9
       have H' := Aside0.mk H
       clear H
       have hcz13_0 : wr.cell? ⟨gb136, 0, none⟩ = some (.slice A0_0 l0_0.length c0_0) := (blk_cell BK136.out 0).trans rfl
       have hcz13_1 : wr.cell? ⟨gb136, 1, none⟩ = some (.slice A0_1 l0_1.length c0_1) := (blk_cell BK136.out 1).trans rfl
       have hcz13_2 : wr.cell? ⟨gb136, 2, none⟩ = some (.slice A0_2 l0_2.length c0_2) := (blk_cell BK136.out 2).trans rfl
       have hfz13_0 := blk_frozen BK136.out 0
       have hfz13_1 := blk_frozen BK136.out 1
       have hfz13_2 := blk_frozen BK136.out 2
       have p137 : 0 ≤ (x8_1 : Int) := of_decide_eq_true aS
       have q137 : x8_1 < (l0_1.length : Int) := of_decide_eq_true aS
       obtain ⟨ad137, e137, hx137_0, hx137_1, hx137_2, hx137_3, hx137_4⟩ := at_T40 HR0_1.out x8_1 p137 q137
       (try rw [← Nbq7.out] at hx137_2)
       cases e137
       replace hx137_0 := pw_cell_below HB.out hx137_0
       replace hx137_1 := pw_cell_below HB.out hx137_1
       replace hx137_2 := pw_cell_below HB.out hx137_2
       replace hx137_3 := pw_cell_below HB.out hx137_3
       replace hx137_4 := pw_cell_below HB.out hx137_4
       replace p137 := eq_true p137
       replace q137 := eq_true q137
       have p138 : 0 ≤ (x8_1 : Int) := of_decide_eq_true aS
       have q138 : x8_1 < (l0_1.length : Int) := of_decide_eq_true aS
       obtain ⟨ad138, e138, hx138_0, hx138_1, hx138_2, hx138_3, hx138_4⟩ := at_T40 HR0_1.out x8_1 p138 q138
       (try rw [← Nbq7.out] at hx138_2)
       obtain rfl : ad137 = ad138 := (by injection e138)
       replace hx138_0 := pw_cell_below HB.out hx138_0
       replace hx138_1 := pw_cell_below HB.out hx138_1
       replace hx138_2 := pw_cell_below HB.out hx138_2
       replace hx138_3 := pw_cell_below HB.out hx138_3
       replace hx138_4 := pw_cell_below HB.out hx138_4
       replace p138 := eq_true p138
       replace q138 := eq_true q138
       go_wp2
       go_roundg k1
       case measure => have := HK1.out; omega
       case rel => exact ⟨(wrap64 (x8_1 + 1)), (by first | rfl | (simp; done) | (simp [*]; done)), H', ⟨by have := HK1.out; omega⟩, ⟨by (with_reducible repeat (first | refine blk_drewN ?_ _ | refine blk_drew ?_ | refine blk_alloc ?_ _)); exact BK136.out⟩, ⟨tH⟩⟩
     ·replace c8 := Bool.eq_false_iff.mpr c8
      subst c8
      have H1 : (eyewitnessref10_Write.l0 k1 a1 a2 (wrap64 (x8_1 + 1)) l0_0 l0_1 l0_2) = some (r1, r2) := by rw [if_neg (show ¬ (false = true) by decide)] at H; exact H
      clear H
      have H := H1
      clear H1
      have H' := Aside0.mk H
      clear H
      have hcz14_0 : wr.cell? ⟨gb136, 0, none⟩ = some (.slice A0_0 l0_0.length c0_0) := (blk_cell BK136.out 0).trans rfl
      have hcz14_1 : wr.cell? ⟨gb136, 1, none⟩ = some (.slice A0_1 l0_1.length c0_1) := (blk_cell BK136.out 1).trans rfl
      have hcz14_2 : wr.cell? ⟨gb136, 2, none⟩ = some (.slice A0_2 l0_2.length c0_2) := (blk_cell BK136.out 2).trans rfl
      have hfz14_0 := blk_frozen BK136.out 0
      have hfz14_1 := blk_frozen BK136.out 1
      have hfz14_2 := blk_frozen BK136.out 2
      have p137 : 0 ≤ (x8_1 : Int) := of_decide_eq_true aS
      have q137 : x8_1 < (l0_1.length : Int) := of_decide_eq_true aS
      obtain ⟨ad137, e137, hx137_0, hx137_1, hx137_2, hx137_3, hx137_4⟩ := at_T40 HR0_1.out x8_1 p137 q137
      (try rw [← Nbq7.out] at hx137_2)
      cases e137
      replace hx137_0 := pw_cell_below HB.out hx137_0
      replace hx137_1 := pw_cell_below HB.out hx137_1
      replace hx137_2 := pw_cell_below HB.out hx137_2
      replace hx137_3 := pw_cell_below HB.out hx137_3
      replace hx137_4 := pw_cell_below HB.out hx137_4
      replace p137 := eq_true p137
      replace q137 := eq_true q137
      go_wp2
      go_roundg k1
      case measure => have := HK1.out; omega
      case rel => exact ⟨(wrap64 (x8_1 + 1)), (by first | rfl | (simp; done) | (simp [*]; done)), H', ⟨by have := HK1.out; omega⟩, ⟨by (with_reducible repeat (first | refine blk_drewN ?_ _ | refine blk_drew ?_ | refine blk_alloc ?_ _)); exact BK136.out⟩, ⟨tH⟩⟩
    ·rw [if_neg c6] at H
     exact absurd H (by simp)
   ·rw [if_neg c5] at H
    have c5b0 : decide (x8_1 < (l0_1.length : Int)) = false := decide_eq_false c5
    clear c5
    simp only [Option.some.injEq, Prod.mk.injEq] at H
    obtain ⟨rfl, rfl⟩ := H
    have hcz15_0 : wr.cell? ⟨gb136, 0, none⟩ = some (.slice A0_0 l0_0.length c0_0) := (blk_cell BK136.out 0).trans rfl
    have hcz15_1 : wr.cell? ⟨gb136, 1, none⟩ = some (.slice A0_1 l0_1.length c0_1) := (blk_cell BK136.out 1).trans rfl
    have hcz15_2 : wr.cell? ⟨gb136, 2, none⟩ = some (.slice A0_2 l0_2.length c0_2) := (blk_cell BK136.out 2).trans rfl
    have hfz15_0 := blk_frozen BK136.out 0
    have hfz15_1 := blk_frozen BK136.out 1
    have hfz15_2 := blk_frozen BK136.out 2
    go_wp2
    go_ret2
    exact ⟨by first | rfl | (simp [errW_none, errW_some] <;> rfl) | (simp [*, errW_none, errW_some] <;> rfl), tH⟩

end Go.Proofs.Ytcnjnollmamifaa.P
