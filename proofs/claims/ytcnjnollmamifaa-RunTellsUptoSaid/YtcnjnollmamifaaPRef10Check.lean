-- written by a program (wip/tools/pr.py: the kit's print over this seat)
import Derived.Test.YtcnjnollmamifaaPKinds
import Derived.Test.YtcnjnollmamifaaPRef10Write
namespace Go.Proofs.Ytcnjnollmamifaa.P
open Go.RowKit Go.Proofs.YtcnjnollmamifaaW.PrintWords Go.Proofs.YtcnjnollmamifaaW.PrintLast Go.Proofs.YtcnjnollmamifaaW.PrintMore
attribute [local go_sem] max2_int min2_int max_two min_two max_three min_three max_four min_four   -- for this text's walks alone
set_option linter.unusedVariables false
set_option linter.unusedSimpArgs false

/-! ### eyewitnessref10_Check: function 16 -/
def eyewitnessref10_Check.l0 : Nat → Int → List ByteArray → List (S40) → List Int → Option (Int × Int × Int)
 | 0, _, _, _, _ => none
 | k + 1, x5, x141000, x141001, x141002 => if x5 < (x141001.length : Int) then (if 0 ≤ x5 then (if ((rd_T40 x141001 x5).f2 = true) then (if ((rd_T40 x141001 x5).f4) = 0 then (some (x5, x5, 5)) else ((eyewitnessref10_Write.f k x141000 x141001 x141002 ((rd_T40 x141001 x5).f3) ((rd_T40 x141001 x5).f4)).bind fun bt143 => (if bt143.1 < x5 then (some (bt143.1, x5, 4)) else (eyewitnessref10_Check.l0 k (wrap64 (x5 + 1)) x141000 x141001 x141002)))) else (eyewitnessref10_Check.l0 k (wrap64 (x5 + 1)) x141000 x141001 x141002)) else (none)) else (some (0, 0, 0))
def eyewitnessref10_Check.f (k : Nat) (l0_0 : List ByteArray) (l0_1 : List (S40)) (l0_2 : List Int) : Option (Int × Int × Int) := eyewitnessref10_Check.l0 k 0 l0_0 l0_1 l0_2
theorem eyewitnessref10_Check.mono_l : ∀ k, (∀ y0 y1 y2 y3, LeO (eyewitnessref10_Check.l0 k y0 y1 y2 y3) (eyewitnessref10_Check.l0 (k + 1) y0 y1 y2 y3))
 | 0 => fun _ _ _ _ r h => by simp [eyewitnessref10_Check.l0] at h
 | k + 1 => by
  have ih0 := eyewitnessref10_Check.mono_l k
  ·intro y0 y1 y2 y3
   unfold eyewitnessref10_Check.l0
   repeat' first
   | (with_reducible exact ih0 _ _ _ _)
   | (with_reducible exact eyewitnessref10_Write.mono _ _ _ _ _ _)
   | (with_reducible exact LeO.refl _)
   | (with_reducible exact LeO.none _)
   | (with_reducible refine LeO.ite ?_ ?_)
   | (with_reducible refine LeO.bind ?_ (fun _ => ?_))
   | exact ih0 _ _ _ _
   | exact eyewitnessref10_Write.mono _ _ _ _ _ _
   | exact LeO.none _
   | refine LeO.ite ?_ ?_
   | refine LeO.bind ?_ (fun _ => ?_)
theorem eyewitnessref10_Check.mono : ∀ a0 a1 a2 k, LeO (eyewitnessref10_Check.f k a0 a1 a2) (eyewitnessref10_Check.f (k + 1) a0 a1 a2) := by
 intro a0 a1 a2 k
 have ih0 := eyewitnessref10_Check.mono_l k
 unfold eyewitnessref10_Check.f
 repeat' first
   | (with_reducible exact ih0 _ _ _ _)
   | (with_reducible exact eyewitnessref10_Write.mono _ _ _ _ _ _)
   | (with_reducible exact LeO.refl _)
   | (with_reducible exact LeO.none _)
   | (with_reducible refine LeO.ite ?_ ?_)
   | (with_reducible refine LeO.bind ?_ (fun _ => ?_))
   | exact ih0 _ _ _ _
   | exact eyewitnessref10_Write.mono _ _ _ _ _ _
   | exact LeO.none _
   | refine LeO.ite ?_ ?_
   | refine LeO.bind ?_ (fun _ => ?_)
set_option maxHeartbeats 8000000 in
set_option maxRecDepth 100000 in
theorem eyewitnessref10_Check.calls (k : Nat) (A0_0 : Option Addr) (c0_0 : Nat) (l0_0 : List ByteArray) (A0_1 : Option Addr) (c0_1 : Nat) (l0_1 : List (S40)) (A0_2 : Option Addr) (c0_2 : Nat) (l0_2 : List Int) (r1 : Int) (r2 : Int) (r3 : Int) (w : World) (hr0_0 : Kd.C Kd.string w A0_0 l0_0.length l0_0) (hc0_0 : l0_0.length ≤ c0_0) (hr0_1 : Kd.C k40 w A0_1 l0_1.length l0_1) (hc0_1 : l0_1.length ≤ c0_1) (hr0_2 : Kd.C (Kd.int .i64) w A0_2 l0_2.length l0_2) (hc0_2 : l0_2.length ≤ c0_2) (h : eyewitnessref10_Check.f k l0_0 l0_1 l0_2 = some (r1, r2, r3)) :
  Calls Try.prog 16 #[.agg #[.slice A0_0 l0_0.length c0_0, .slice A0_1 l0_1.length c0_1, .slice A0_2 l0_2.length c0_2]] w fun e w' => e = .returned (.tuple #[.int .i64 r1, .int .i64 r2, .int .i64 r3]) ∧ Below w.heap.size w w' := by
 have hu31 := Try.underlying31
 have hu40 := Try.underlying40
 have HR0_0 := Aside0.mk hr0_0
 have HC0_0 := Aside0.mk hc0_0
 clear hr0_0 hc0_0
 have HR0_1 := Aside0.mk hr0_1
 have HC0_1 := Aside0.mk hc0_1
 clear hr0_1 hc0_1
 have HR0_2 := Aside0.mk hr0_2
 have HC0_2 := Aside0.mk hc0_2
 clear hr0_2 hc0_2
 have HB := Aside0.mk (Below.refl w.heap.size w)
 have H : (eyewitnessref10_Check.l0 k 0 l0_0 l0_1 l0_2) = some (r1, r2, r3) := h
 clear h
 have H' := Aside0.mk H
 clear H
 go_enter Try.func16, Try.ntmps16
 go_wp2_with (first | ((with_reducible refine gate_dst (N := 1) rfl ?_); refine box_event ?hg (N := 1) ?hd (cs := #[.slice A0_0 l0_0.length c0_0, .slice A0_1 l0_1.length c0_1, .slice A0_2 l0_2.length c0_2]) (t := 31) ?hr ?_; (case hd => rfl); (case hg => rfl); (case hr => first | (go_simp; done) | (go_simp; rfl)); intro gb140 hg w2 hbox hb; have n0_ := Aside0.mk (below_step tH hb); have n1_ := Aside0.mk (hbox); have n2_ := Aside0.mk ((by rw [hg]; exact (below_size tH) : w.heap.size ≤ gb140)); have n3_ := Aside0.mk ((by rw [hg]; exact (below_size tH) : w.heap.size ≤ gb140)); clear HB; have HB := n0_; have BK140 := n1_; have GW140 := n2_; have GE140 := n3_; clear n0_ n1_ n2_ n3_; clear hb hbox hg))
 go_loopg [5] k (fun kq v5 w' => ∃ (x5_1 : Int), v5 = .int .i64 x5_1 ∧ Aside0 (eyewitnessref10_Check.l0 kq x5_1 l0_0 l0_1 l0_2 = some (r1, r2, r3)) ∧ Aside0 (kq ≤ k) ∧ Aside0 (w'.heap[gb140]? = some (.cells #[(.slice A0_0 l0_0.length c0_0), (.slice A0_1 l0_1.length c0_1), (.slice A0_2 l0_2.length c0_2)] 31 (0, 0))) ∧ Aside0 (Below w.heap.size w w'))
 case atStart => exact ⟨(0), (by first | rfl | (simp; done) | (simp [*]; done)), H', ⟨Nat.le_refl _⟩, ⟨by (with_reducible repeat (first | refine blk_drewN ?_ _ | refine blk_drew ?_ | refine blk_alloc ?_ _)); exact BK140.out⟩, ⟨tH⟩⟩
 case round =>
  clear H'
  try clear c1
  try clear p2
  obtain ⟨x5_1, rfl, HA, HK1, BK140, HB⟩ := hrel
  cases gk with
  | zero => exact absurd HA.out (by simp [eyewitnessref10_Check.l0])
  | succ k1 =>
   have H := HA.out
   clear HA
   simp only [eyewitnessref10_Check.l0] at H
   by_cases c3 : x5_1 < (l0_1.length : Int)
   ·rw [if_pos c3] at H
    have c3b0 : decide (x5_1 < (l0_1.length : Int)) = true := decide_eq_true c3
    clear c3
    by_cases c4 : 0 ≤ x5_1
    ·rw [if_pos c4] at H
     have c4b0 : decide (0 ≤ x5_1) = true := decide_eq_true c4
     clear c4
     obtain ⟨bq5, hbq5⟩ : ∃ b_ : Bool, b_ = ((rd_T40 l0_1 x5_1).f2) := ⟨_, rfl⟩
     replace H : (if (bq5 = true) then (if ((rd_T40 l0_1 x5_1).f4) = 0 then (some (x5_1, x5_1, 5)) else ((eyewitnessref10_Write.f k1 l0_0 l0_1 l0_2 ((rd_T40 l0_1 x5_1).f3) ((rd_T40 l0_1 x5_1).f4)).bind fun bt143 => (if bt143.1 < x5_1 then (some (bt143.1, x5_1, 4)) else (eyewitnessref10_Check.l0 k1 (wrap64 (x5_1 + 1)) l0_0 l0_1 l0_2)))) else (eyewitnessref10_Check.l0 k1 (wrap64 (x5_1 + 1)) l0_0 l0_1 l0_2)) = some (r1, r2, r3) := by rw [← hbq5] at H; exact H
     have Nbq5 := Aside0.mk hbq5
     clear hbq5
     by_cases c6 : (bq5 = true)
     ·subst c6
      have H1 : (if ((rd_T40 l0_1 x5_1).f4) = 0 then (some (x5_1, x5_1, 5)) else ((eyewitnessref10_Write.f k1 l0_0 l0_1 l0_2 ((rd_T40 l0_1 x5_1).f3) ((rd_T40 l0_1 x5_1).f4)).bind fun bt143 => (if bt143.1 < x5_1 then (some (bt143.1, x5_1, 4)) else (eyewitnessref10_Check.l0 k1 (wrap64 (x5_1 + 1)) l0_0 l0_1 l0_2)))) = some (r1, r2, r3) := by rw [if_pos rfl] at H; exact H
      clear H
      have H := H1
      clear H1
      by_cases c7 : ((rd_T40 l0_1 x5_1).f4) = 0
      ·rw [if_pos c7] at H
       have c7b0 : (((rd_T40 l0_1 x5_1).f4) == 0) = true := beq_iff_eq.mpr c7
       have c7b1 : (((rd_T40 l0_1 x5_1).f4) != 0) = false := bne_eq_false_iff_eq.mpr c7
       clear c7
       simp only [Option.some.injEq, Prod.mk.injEq] at H
       obtain ⟨rfl, rfl, rfl⟩ := H
       have hcz8_0 : wr.cell? ⟨gb140, 0, none⟩ = some (.slice A0_0 l0_0.length c0_0) := (blk_cell BK140.out 0).trans rfl
       have hcz8_1 : wr.cell? ⟨gb140, 1, none⟩ = some (.slice A0_1 l0_1.length c0_1) := (blk_cell BK140.out 1).trans rfl
       have hcz8_2 : wr.cell? ⟨gb140, 2, none⟩ = some (.slice A0_2 l0_2.length c0_2) := (blk_cell BK140.out 2).trans rfl
       have hfz8_0 := blk_frozen BK140.out 0
       have hfz8_1 := blk_frozen BK140.out 1
       have hfz8_2 := blk_frozen BK140.out 2
       have p141 : 0 ≤ (x5_1 : Int) := of_decide_eq_true aS
       have q141 : x5_1 < (l0_1.length : Int) := of_decide_eq_true aS
       obtain ⟨ad141, e141, hx141_0, hx141_1, hx141_2, hx141_3, hx141_4⟩ := at_T40 HR0_1.out x5_1 p141 q141
       (try rw [← Nbq5.out] at hx141_2)
       cases e141
       replace hx141_0 := pw_cell_below HB.out hx141_0
       replace hx141_1 := pw_cell_below HB.out hx141_1
       replace hx141_2 := pw_cell_below HB.out hx141_2
       replace hx141_3 := pw_cell_below HB.out hx141_3
       replace hx141_4 := pw_cell_below HB.out hx141_4
       replace p141 := eq_true p141
       replace q141 := eq_true q141
       go_wp2_with (first | ((with_reducible refine gate_dst (N := 6) rfl ?_); refine box_event ?hg (N := 6) ?hd (cs := #[.int .i64 0, .int .i64 0, .bool false, .int .i64 0, .int .i64 0]) (t := 40) ?hr ?_; (case hd => rfl); (case hg => rfl); (case hr => first | (go_simp; done) | (go_simp; rfl)); intro gb142 hg w9 hbox hb; have n0_ := Aside0.mk (blk_below (g := gb140) tB hb); have n1_ := Aside0.mk (below_step tH hb); have n2_ := Aside0.mk (hbox); have n3_ := Aside0.mk ((by rw [hg]; exact (below_size tH) : w.heap.size ≤ gb142)); have n4_ := Aside0.mk ((by rw [hg]; exact (below_size tH) : w.heap.size ≤ gb142)); have n5_ := Aside0.mk ((by rw [hg]; exact Nat.ne_of_lt (blk_lt (g := gb140) tB) : gb140 ≠ gb142)); have n6_ := Aside0.mk ((by rw [hg]; exact Nat.ne_of_gt (blk_lt (g := gb140) tB) : gb142 ≠ gb140)); clear BK140; clear HB; have BK140 := n0_; have HB := n1_; have BK142 := n2_; have GW142 := n3_; have GE142 := n4_; have NB140_142 := n5_; have NB142_140 := n6_; clear n0_ n1_ n2_ n3_ n4_ n5_ n6_; clear hb hbox hg; have hnb10 := NB142_140.out; have hnc10 := NB140_142.out; have hcz11_0 : w9.cell? ⟨gb142, 0, none⟩ = some (.int .i64 0) := (blk_cell BK142.out 0).trans rfl; have hcz11_1 : w9.cell? ⟨gb142, 1, none⟩ = some (.int .i64 0) := (blk_cell BK142.out 1).trans rfl; have hcz11_2 : w9.cell? ⟨gb142, 2, none⟩ = some (.bool false) := (blk_cell BK142.out 2).trans rfl; have hcz11_3 : w9.cell? ⟨gb142, 3, none⟩ = some (.int .i64 0) := (blk_cell BK142.out 3).trans rfl; have hcz11_4 : w9.cell? ⟨gb142, 4, none⟩ = some (.int .i64 0) := (blk_cell BK142.out 4).trans rfl; have hfz11_0 := blk_frozen BK142.out 0; have hfz11_1 := blk_frozen BK142.out 1; have hfz11_2 := blk_frozen BK142.out 2; have hfz11_3 := blk_frozen BK142.out 3; have hfz11_4 := blk_frozen BK142.out 4))
       go_ret3
       exact ⟨by first | rfl | (simp [errW_none, errW_some] <;> rfl) | (simp [*, errW_none, errW_some] <;> rfl), tH⟩
      ·rw [if_neg c7] at H
       have c7b0 : (((rd_T40 l0_1 x5_1).f4) == 0) = false := beq_eq_false_iff_ne.mpr c7
       have c7b1 : (((rd_T40 l0_1 x5_1).f4) != 0) = true := bne_iff_ne.mpr c7
       replace H := Option.bind_eq_some_iff.mp H
       obtain ⟨⟨t143, t144⟩, A120, H⟩ := H
       replace H : (if t143 < x5_1 then (some (t143, x5_1, 4)) else (eyewitnessref10_Check.l0 k1 (wrap64 (x5_1 + 1)) l0_0 l0_1 l0_2)) = some (r1, r2, r3) := H
       have A12 := Aside0.mk A120
       clear A120
       by_cases c13 : t143 < x5_1
       ·rw [if_pos c13] at H
        have c13b0 : decide (t143 < x5_1) = true := decide_eq_true c13
        clear c13
        simp only [Option.some.injEq, Prod.mk.injEq] at H
        obtain ⟨rfl, rfl, rfl⟩ := H
        have hcz14_0 : wr.cell? ⟨gb140, 0, none⟩ = some (.slice A0_0 l0_0.length c0_0) := (blk_cell BK140.out 0).trans rfl
        have hcz14_1 : wr.cell? ⟨gb140, 1, none⟩ = some (.slice A0_1 l0_1.length c0_1) := (blk_cell BK140.out 1).trans rfl
        have hcz14_2 : wr.cell? ⟨gb140, 2, none⟩ = some (.slice A0_2 l0_2.length c0_2) := (blk_cell BK140.out 2).trans rfl
        have hfz14_0 := blk_frozen BK140.out 0
        have hfz14_1 := blk_frozen BK140.out 1
        have hfz14_2 := blk_frozen BK140.out 2
        have p141 : 0 ≤ (x5_1 : Int) := of_decide_eq_true aS
        have q141 : x5_1 < (l0_1.length : Int) := of_decide_eq_true aS
        obtain ⟨ad141, e141, hx141_0, hx141_1, hx141_2, hx141_3, hx141_4⟩ := at_T40 HR0_1.out x5_1 p141 q141
        (try rw [← Nbq5.out] at hx141_2)
        cases e141
        replace hx141_0 := pw_cell_below HB.out hx141_0
        replace hx141_1 := pw_cell_below HB.out hx141_1
        replace hx141_2 := pw_cell_below HB.out hx141_2
        replace hx141_3 := pw_cell_below HB.out hx141_3
        replace hx141_4 := pw_cell_below HB.out hx141_4
        replace p141 := eq_true p141
        replace q141 := eq_true q141
        go_wp2_with (first | ((with_reducible refine gate_dst (N := 6) rfl ?_); refine box_event ?hg (N := 6) ?hd (cs := #[.int .i64 0, .int .i64 0, .bool false, .int .i64 0, .int .i64 0]) (t := 40) ?hr ?_; (case hd => rfl); (case hg => rfl); (case hr => first | (go_simp; done) | (go_simp; rfl)); intro gb142 hg w15 hbox hb; have n0_ := Aside0.mk (blk_below (g := gb140) tB hb); have n1_ := Aside0.mk (below_step tH hb); have n2_ := Aside0.mk (hbox); have n3_ := Aside0.mk ((by rw [hg]; exact (below_size tH) : w.heap.size ≤ gb142)); have n4_ := Aside0.mk ((by rw [hg]; exact (below_size tH) : w.heap.size ≤ gb142)); have n5_ := Aside0.mk ((by rw [hg]; exact Nat.ne_of_lt (blk_lt (g := gb140) tB) : gb140 ≠ gb142)); have n6_ := Aside0.mk ((by rw [hg]; exact Nat.ne_of_gt (blk_lt (g := gb140) tB) : gb142 ≠ gb140)); clear BK140; clear HB; have BK140 := n0_; have HB := n1_; have BK142 := n2_; have GW142 := n3_; have GE142 := n4_; have NB140_142 := n5_; have NB142_140 := n6_; clear n0_ n1_ n2_ n3_ n4_ n5_ n6_; clear hb hbox hg; have hnb16 := NB142_140.out; have hnc16 := NB140_142.out; have hcz17_0 : w15.cell? ⟨gb142, 0, none⟩ = some (.int .i64 0) := (blk_cell BK142.out 0).trans rfl; have hcz17_1 : w15.cell? ⟨gb142, 1, none⟩ = some (.int .i64 0) := (blk_cell BK142.out 1).trans rfl; have hcz17_2 : w15.cell? ⟨gb142, 2, none⟩ = some (.bool false) := (blk_cell BK142.out 2).trans rfl; have hcz17_3 : w15.cell? ⟨gb142, 3, none⟩ = some (.int .i64 0) := (blk_cell BK142.out 3).trans rfl; have hcz17_4 : w15.cell? ⟨gb142, 4, none⟩ = some (.int .i64 0) := (blk_cell BK142.out 4).trans rfl; have hfz17_0 := blk_frozen BK142.out 0; have hfz17_1 := blk_frozen BK142.out 1; have hfz17_2 := blk_frozen BK142.out 2; have hfz17_3 := blk_frozen BK142.out 3; have hfz17_4 := blk_frozen BK142.out 4; have hcz18_0 : w15.cell? ⟨gb140, 0, none⟩ = some (.slice A0_0 l0_0.length c0_0) := (blk_cell BK140.out 0).trans rfl; have hcz18_1 : w15.cell? ⟨gb140, 1, none⟩ = some (.slice (some ad141) l0_1.length c0_1) := (blk_cell BK140.out 1).trans rfl; have hcz18_2 : w15.cell? ⟨gb140, 2, none⟩ = some (.slice A0_2 l0_2.length c0_2) := (blk_cell BK140.out 2).trans rfl; have hfz18_0 := blk_frozen BK140.out 0; have hfz18_1 := blk_frozen BK140.out 1; have hfz18_2 := blk_frozen BK140.out 2) | ((with_reducible refine gate_callee (f := 24) rfl ?_); refine goesL_ (some 35) rfl rfl Try.func24 (by kernel_rfl) rfl #[.agg #[.slice A0_0 l0_0.length c0_0, .slice (some ad141) l0_1.length c0_1, .slice A0_2 l0_2.length c0_2], .int .i64 ((rd_T40 l0_1 x5_1).f3), .int .i64 ((rd_T40 l0_1 x5_1).f4)] rfl (by (try simp only [List.map_toArray, List.map_cons, List.map_nil]); first | done | rfl | (simp only [List.length_drop, List.length_take]; rfl)) ?_; (with_reducible refine (eyewitnessref10_Write.calls k1 _ _ l0_0 _ _ l0_1 _ _ l0_2 ((rd_T40 l0_1 x5_1).f3) ((rd_T40 l0_1 x5_1).f4) t143 t144 _ ?side1 ?side2 ?side3 ?side4 ?side5 ?side6 A12.out).mono ?_); (case side1 => exact Kd.C_below HR0_0.out tH); (case side2 => exact HC0_0.out); (case side3 => exact Kd.C_below HR0_1.out tH); (case side4 => exact HC0_1.out); (case side5 => exact Kd.C_below HR0_2.out tH); (case side6 => exact HC0_2.out); rintro e w19 ⟨rfl, hb⟩; refine ⟨_, rfl, ?_⟩; have n0_ := Aside0.mk (blk_below (g := gb140) (o := .cells #[.slice A0_0 l0_0.length c0_0, .slice (some ad141) l0_1.length c0_1, .slice A0_2 l0_2.length c0_2] 31 (0, 0)) (by (with_reducible repeat (first | refine blk_drewN ?_ _ | refine blk_drew ?_ | refine blk_alloc ?_ _)); refine blk_far ?_ NB140_142.out _; (with_reducible repeat (first | refine blk_drewN ?_ _ | refine blk_drew ?_ | refine blk_alloc ?_ _)); refine blk_far ?_ NB140_142.out _; (with_reducible repeat (first | refine blk_drewN ?_ _ | refine blk_drew ?_ | refine blk_alloc ?_ _)); refine blk_far ?_ NB140_142.out _; (with_reducible repeat (first | refine blk_drewN ?_ _ | refine blk_drew ?_ | refine blk_alloc ?_ _)); refine blk_far ?_ NB140_142.out _; (with_reducible repeat (first | refine blk_drewN ?_ _ | refine blk_drew ?_ | refine blk_alloc ?_ _)); refine blk_far ?_ NB140_142.out _; (with_reducible repeat (first | refine blk_drewN ?_ _ | refine blk_drew ?_ | refine blk_alloc ?_ _)); exact BK140.out) hb); have n1_ := Aside0.mk (blk_below (g := gb142) (o := .cells #[.int .i64 ((rd_T40 l0_1 x5_1).f0), .int .i64 ((rd_T40 l0_1 x5_1).f1), .bool true, .int .i64 ((rd_T40 l0_1 x5_1).f3), .int .i64 ((rd_T40 l0_1 x5_1).f4)] 40 (0, 0)) (by (with_reducible repeat (first | refine blk_drewN ?_ _ | refine blk_drew ?_ | refine blk_alloc ?_ _)); refine blk_put (cs := #[.int .i64 ((rd_T40 l0_1 x5_1).f0), .int .i64 ((rd_T40 l0_1 x5_1).f1), .bool true, .int .i64 ((rd_T40 l0_1 x5_1).f3), .int .i64 0]) ?_ 4 _ rfl; (with_reducible repeat (first | refine blk_drewN ?_ _ | refine blk_drew ?_ | refine blk_alloc ?_ _)); refine blk_put (cs := #[.int .i64 ((rd_T40 l0_1 x5_1).f0), .int .i64 ((rd_T40 l0_1 x5_1).f1), .bool true, .int .i64 0, .int .i64 0]) ?_ 3 _ rfl; (with_reducible repeat (first | refine blk_drewN ?_ _ | refine blk_drew ?_ | refine blk_alloc ?_ _)); refine blk_put (cs := #[.int .i64 ((rd_T40 l0_1 x5_1).f0), .int .i64 ((rd_T40 l0_1 x5_1).f1), .bool false, .int .i64 0, .int .i64 0]) ?_ 2 _ rfl; (with_reducible repeat (first | refine blk_drewN ?_ _ | refine blk_drew ?_ | refine blk_alloc ?_ _)); refine blk_put (cs := #[.int .i64 ((rd_T40 l0_1 x5_1).f0), .int .i64 0, .bool false, .int .i64 0, .int .i64 0]) ?_ 1 _ rfl; (with_reducible repeat (first | refine blk_drewN ?_ _ | refine blk_drew ?_ | refine blk_alloc ?_ _)); refine blk_put (cs := #[.int .i64 0, .int .i64 0, .bool false, .int .i64 0, .int .i64 0]) ?_ 0 _ rfl; (with_reducible repeat (first | refine blk_drewN ?_ _ | refine blk_drew ?_ | refine blk_alloc ?_ _)); exact BK142.out) hb); have n2_ := Aside0.mk (below_step tH hb); clear BK140; clear BK142; clear HB; have BK140 := n0_; have BK142 := n1_; have HB := n2_; clear n0_ n1_ n2_; (try clear hb); (try clear hb2); (try clear hk); (try clear hi)))
        go_ret3
        exact ⟨by first | rfl | (simp [errW_none, errW_some] <;> rfl) | (simp [*, errW_none, errW_some] <;> rfl), tH⟩
       ·rw [if_neg c13] at H
        have c13b0 : decide (t143 < x5_1) = false := decide_eq_false c13
        clear c13
        have H' := Aside0.mk H
        clear H
        have hcz20_0 : wr.cell? ⟨gb140, 0, none⟩ = some (.slice A0_0 l0_0.length c0_0) := (blk_cell BK140.out 0).trans rfl
        have hcz20_1 : wr.cell? ⟨gb140, 1, none⟩ = some (.slice A0_1 l0_1.length c0_1) := (blk_cell BK140.out 1).trans rfl
        have hcz20_2 : wr.cell? ⟨gb140, 2, none⟩ = some (.slice A0_2 l0_2.length c0_2) := (blk_cell BK140.out 2).trans rfl
        have hfz20_0 := blk_frozen BK140.out 0
        have hfz20_1 := blk_frozen BK140.out 1
        have hfz20_2 := blk_frozen BK140.out 2
        have p141 : 0 ≤ (x5_1 : Int) := of_decide_eq_true aS
        have q141 : x5_1 < (l0_1.length : Int) := of_decide_eq_true aS
        obtain ⟨ad141, e141, hx141_0, hx141_1, hx141_2, hx141_3, hx141_4⟩ := at_T40 HR0_1.out x5_1 p141 q141
        (try rw [← Nbq5.out] at hx141_2)
        cases e141
        replace hx141_0 := pw_cell_below HB.out hx141_0
        replace hx141_1 := pw_cell_below HB.out hx141_1
        replace hx141_2 := pw_cell_below HB.out hx141_2
        replace hx141_3 := pw_cell_below HB.out hx141_3
        replace hx141_4 := pw_cell_below HB.out hx141_4
        replace p141 := eq_true p141
        replace q141 := eq_true q141
        go_wp2_with (first | ((with_reducible refine gate_dst (N := 6) rfl ?_); refine box_event ?hg (N := 6) ?hd (cs := #[.int .i64 0, .int .i64 0, .bool false, .int .i64 0, .int .i64 0]) (t := 40) ?hr ?_; (case hd => rfl); (case hg => rfl); (case hr => first | (go_simp; done) | (go_simp; rfl)); intro gb142 hg w21 hbox hb; have n0_ := Aside0.mk (blk_below (g := gb140) tB hb); have n1_ := Aside0.mk (below_step tH hb); have n2_ := Aside0.mk (hbox); have n3_ := Aside0.mk ((by rw [hg]; exact (below_size tH) : w.heap.size ≤ gb142)); have n4_ := Aside0.mk ((by rw [hg]; exact (below_size tH) : w.heap.size ≤ gb142)); have n5_ := Aside0.mk ((by rw [hg]; exact Nat.ne_of_lt (blk_lt (g := gb140) tB) : gb140 ≠ gb142)); have n6_ := Aside0.mk ((by rw [hg]; exact Nat.ne_of_gt (blk_lt (g := gb140) tB) : gb142 ≠ gb140)); clear BK140; clear HB; have BK140 := n0_; have HB := n1_; have BK142 := n2_; have GW142 := n3_; have GE142 := n4_; have NB140_142 := n5_; have NB142_140 := n6_; clear n0_ n1_ n2_ n3_ n4_ n5_ n6_; clear hb hbox hg; have hnb22 := NB142_140.out; have hnc22 := NB140_142.out; have hcz23_0 : w21.cell? ⟨gb142, 0, none⟩ = some (.int .i64 0) := (blk_cell BK142.out 0).trans rfl; have hcz23_1 : w21.cell? ⟨gb142, 1, none⟩ = some (.int .i64 0) := (blk_cell BK142.out 1).trans rfl; have hcz23_2 : w21.cell? ⟨gb142, 2, none⟩ = some (.bool false) := (blk_cell BK142.out 2).trans rfl; have hcz23_3 : w21.cell? ⟨gb142, 3, none⟩ = some (.int .i64 0) := (blk_cell BK142.out 3).trans rfl; have hcz23_4 : w21.cell? ⟨gb142, 4, none⟩ = some (.int .i64 0) := (blk_cell BK142.out 4).trans rfl; have hfz23_0 := blk_frozen BK142.out 0; have hfz23_1 := blk_frozen BK142.out 1; have hfz23_2 := blk_frozen BK142.out 2; have hfz23_3 := blk_frozen BK142.out 3; have hfz23_4 := blk_frozen BK142.out 4; have hcz24_0 : w21.cell? ⟨gb140, 0, none⟩ = some (.slice A0_0 l0_0.length c0_0) := (blk_cell BK140.out 0).trans rfl; have hcz24_1 : w21.cell? ⟨gb140, 1, none⟩ = some (.slice (some ad141) l0_1.length c0_1) := (blk_cell BK140.out 1).trans rfl; have hcz24_2 : w21.cell? ⟨gb140, 2, none⟩ = some (.slice A0_2 l0_2.length c0_2) := (blk_cell BK140.out 2).trans rfl; have hfz24_0 := blk_frozen BK140.out 0; have hfz24_1 := blk_frozen BK140.out 1; have hfz24_2 := blk_frozen BK140.out 2) | ((with_reducible refine gate_callee (f := 24) rfl ?_); refine goesL_ (some 35) rfl rfl Try.func24 (by kernel_rfl) rfl #[.agg #[.slice A0_0 l0_0.length c0_0, .slice (some ad141) l0_1.length c0_1, .slice A0_2 l0_2.length c0_2], .int .i64 ((rd_T40 l0_1 x5_1).f3), .int .i64 ((rd_T40 l0_1 x5_1).f4)] rfl (by (try simp only [List.map_toArray, List.map_cons, List.map_nil]); first | done | rfl | (simp only [List.length_drop, List.length_take]; rfl)) ?_; (with_reducible refine (eyewitnessref10_Write.calls k1 _ _ l0_0 _ _ l0_1 _ _ l0_2 ((rd_T40 l0_1 x5_1).f3) ((rd_T40 l0_1 x5_1).f4) t143 t144 _ ?side1 ?side2 ?side3 ?side4 ?side5 ?side6 A12.out).mono ?_); (case side1 => exact Kd.C_below HR0_0.out tH); (case side2 => exact HC0_0.out); (case side3 => exact Kd.C_below HR0_1.out tH); (case side4 => exact HC0_1.out); (case side5 => exact Kd.C_below HR0_2.out tH); (case side6 => exact HC0_2.out); rintro e w25 ⟨rfl, hb⟩; refine ⟨_, rfl, ?_⟩; have n0_ := Aside0.mk (blk_below (g := gb140) (o := .cells #[.slice A0_0 l0_0.length c0_0, .slice (some ad141) l0_1.length c0_1, .slice A0_2 l0_2.length c0_2] 31 (0, 0)) (by (with_reducible repeat (first | refine blk_drewN ?_ _ | refine blk_drew ?_ | refine blk_alloc ?_ _)); refine blk_far ?_ NB140_142.out _; (with_reducible repeat (first | refine blk_drewN ?_ _ | refine blk_drew ?_ | refine blk_alloc ?_ _)); refine blk_far ?_ NB140_142.out _; (with_reducible repeat (first | refine blk_drewN ?_ _ | refine blk_drew ?_ | refine blk_alloc ?_ _)); refine blk_far ?_ NB140_142.out _; (with_reducible repeat (first | refine blk_drewN ?_ _ | refine blk_drew ?_ | refine blk_alloc ?_ _)); refine blk_far ?_ NB140_142.out _; (with_reducible repeat (first | refine blk_drewN ?_ _ | refine blk_drew ?_ | refine blk_alloc ?_ _)); refine blk_far ?_ NB140_142.out _; (with_reducible repeat (first | refine blk_drewN ?_ _ | refine blk_drew ?_ | refine blk_alloc ?_ _)); exact BK140.out) hb); have n1_ := Aside0.mk (blk_below (g := gb142) (o := .cells #[.int .i64 ((rd_T40 l0_1 x5_1).f0), .int .i64 ((rd_T40 l0_1 x5_1).f1), .bool true, .int .i64 ((rd_T40 l0_1 x5_1).f3), .int .i64 ((rd_T40 l0_1 x5_1).f4)] 40 (0, 0)) (by (with_reducible repeat (first | refine blk_drewN ?_ _ | refine blk_drew ?_ | refine blk_alloc ?_ _)); refine blk_put (cs := #[.int .i64 ((rd_T40 l0_1 x5_1).f0), .int .i64 ((rd_T40 l0_1 x5_1).f1), .bool true, .int .i64 ((rd_T40 l0_1 x5_1).f3), .int .i64 0]) ?_ 4 _ rfl; (with_reducible repeat (first | refine blk_drewN ?_ _ | refine blk_drew ?_ | refine blk_alloc ?_ _)); refine blk_put (cs := #[.int .i64 ((rd_T40 l0_1 x5_1).f0), .int .i64 ((rd_T40 l0_1 x5_1).f1), .bool true, .int .i64 0, .int .i64 0]) ?_ 3 _ rfl; (with_reducible repeat (first | refine blk_drewN ?_ _ | refine blk_drew ?_ | refine blk_alloc ?_ _)); refine blk_put (cs := #[.int .i64 ((rd_T40 l0_1 x5_1).f0), .int .i64 ((rd_T40 l0_1 x5_1).f1), .bool false, .int .i64 0, .int .i64 0]) ?_ 2 _ rfl; (with_reducible repeat (first | refine blk_drewN ?_ _ | refine blk_drew ?_ | refine blk_alloc ?_ _)); refine blk_put (cs := #[.int .i64 ((rd_T40 l0_1 x5_1).f0), .int .i64 0, .bool false, .int .i64 0, .int .i64 0]) ?_ 1 _ rfl; (with_reducible repeat (first | refine blk_drewN ?_ _ | refine blk_drew ?_ | refine blk_alloc ?_ _)); refine blk_put (cs := #[.int .i64 0, .int .i64 0, .bool false, .int .i64 0, .int .i64 0]) ?_ 0 _ rfl; (with_reducible repeat (first | refine blk_drewN ?_ _ | refine blk_drew ?_ | refine blk_alloc ?_ _)); exact BK142.out) hb); have n2_ := Aside0.mk (below_step tH hb); clear BK140; clear BK142; clear HB; have BK140 := n0_; have BK142 := n1_; have HB := n2_; clear n0_ n1_ n2_; (try clear hb); (try clear hb2); (try clear hk); (try clear hi)))
        go_roundg k1
        case measure => have := HK1.out; omega
        case rel => exact ⟨(wrap64 (x5_1 + 1)), (by first | rfl | (simp; done) | (simp [*]; done)), H', ⟨by have := HK1.out; omega⟩, ⟨by (with_reducible repeat (first | refine blk_drewN ?_ _ | refine blk_drew ?_ | refine blk_alloc ?_ _)); exact BK140.out⟩, ⟨tH⟩⟩
     ·replace c6 := Bool.eq_false_iff.mpr c6
      subst c6
      have H1 : (eyewitnessref10_Check.l0 k1 (wrap64 (x5_1 + 1)) l0_0 l0_1 l0_2) = some (r1, r2, r3) := by rw [if_neg (show ¬ (false = true) by decide)] at H; exact H
      clear H
      have H := H1
      clear H1
      have H' := Aside0.mk H
      clear H
      have hcz26_0 : wr.cell? ⟨gb140, 0, none⟩ = some (.slice A0_0 l0_0.length c0_0) := (blk_cell BK140.out 0).trans rfl
      have hcz26_1 : wr.cell? ⟨gb140, 1, none⟩ = some (.slice A0_1 l0_1.length c0_1) := (blk_cell BK140.out 1).trans rfl
      have hcz26_2 : wr.cell? ⟨gb140, 2, none⟩ = some (.slice A0_2 l0_2.length c0_2) := (blk_cell BK140.out 2).trans rfl
      have hfz26_0 := blk_frozen BK140.out 0
      have hfz26_1 := blk_frozen BK140.out 1
      have hfz26_2 := blk_frozen BK140.out 2
      have p141 : 0 ≤ (x5_1 : Int) := of_decide_eq_true aS
      have q141 : x5_1 < (l0_1.length : Int) := of_decide_eq_true aS
      obtain ⟨ad141, e141, hx141_0, hx141_1, hx141_2, hx141_3, hx141_4⟩ := at_T40 HR0_1.out x5_1 p141 q141
      (try rw [← Nbq5.out] at hx141_2)
      cases e141
      replace hx141_0 := pw_cell_below HB.out hx141_0
      replace hx141_1 := pw_cell_below HB.out hx141_1
      replace hx141_2 := pw_cell_below HB.out hx141_2
      replace hx141_3 := pw_cell_below HB.out hx141_3
      replace hx141_4 := pw_cell_below HB.out hx141_4
      replace p141 := eq_true p141
      replace q141 := eq_true q141
      go_wp2_with (first | ((with_reducible refine gate_dst (N := 6) rfl ?_); refine box_event ?hg (N := 6) ?hd (cs := #[.int .i64 0, .int .i64 0, .bool false, .int .i64 0, .int .i64 0]) (t := 40) ?hr ?_; (case hd => rfl); (case hg => rfl); (case hr => first | (go_simp; done) | (go_simp; rfl)); intro gb142 hg w27 hbox hb; have n0_ := Aside0.mk (blk_below (g := gb140) tB hb); have n1_ := Aside0.mk (below_step tH hb); have n2_ := Aside0.mk (hbox); have n3_ := Aside0.mk ((by rw [hg]; exact (below_size tH) : w.heap.size ≤ gb142)); have n4_ := Aside0.mk ((by rw [hg]; exact (below_size tH) : w.heap.size ≤ gb142)); have n5_ := Aside0.mk ((by rw [hg]; exact Nat.ne_of_lt (blk_lt (g := gb140) tB) : gb140 ≠ gb142)); have n6_ := Aside0.mk ((by rw [hg]; exact Nat.ne_of_gt (blk_lt (g := gb140) tB) : gb142 ≠ gb140)); clear BK140; clear HB; have BK140 := n0_; have HB := n1_; have BK142 := n2_; have GW142 := n3_; have GE142 := n4_; have NB140_142 := n5_; have NB142_140 := n6_; clear n0_ n1_ n2_ n3_ n4_ n5_ n6_; clear hb hbox hg; have hnb28 := NB142_140.out; have hnc28 := NB140_142.out; have hcz29_0 : w27.cell? ⟨gb142, 0, none⟩ = some (.int .i64 0) := (blk_cell BK142.out 0).trans rfl; have hcz29_1 : w27.cell? ⟨gb142, 1, none⟩ = some (.int .i64 0) := (blk_cell BK142.out 1).trans rfl; have hcz29_2 : w27.cell? ⟨gb142, 2, none⟩ = some (.bool false) := (blk_cell BK142.out 2).trans rfl; have hcz29_3 : w27.cell? ⟨gb142, 3, none⟩ = some (.int .i64 0) := (blk_cell BK142.out 3).trans rfl; have hcz29_4 : w27.cell? ⟨gb142, 4, none⟩ = some (.int .i64 0) := (blk_cell BK142.out 4).trans rfl; have hfz29_0 := blk_frozen BK142.out 0; have hfz29_1 := blk_frozen BK142.out 1; have hfz29_2 := blk_frozen BK142.out 2; have hfz29_3 := blk_frozen BK142.out 3; have hfz29_4 := blk_frozen BK142.out 4))
      go_roundg k1
      case measure => have := HK1.out; omega
      case rel => exact ⟨(wrap64 (x5_1 + 1)), (by first | rfl | (simp; done) | (simp [*]; done)), H', ⟨by have := HK1.out; omega⟩, ⟨by (with_reducible repeat (first | refine blk_drewN ?_ _ | refine blk_drew ?_ | refine blk_alloc ?_ _)); refine blk_far ?_ NB140_142.out _; (with_reducible repeat (first | refine blk_drewN ?_ _ | refine blk_drew ?_ | refine blk_alloc ?_ _)); refine blk_far ?_ NB140_142.out _; (with_reducible repeat (first | refine blk_drewN ?_ _ | refine blk_drew ?_ | refine blk_alloc ?_ _)); refine blk_far ?_ NB140_142.out _; (with_reducible repeat (first | refine blk_drewN ?_ _ | refine blk_drew ?_ | refine blk_alloc ?_ _)); refine blk_far ?_ NB140_142.out _; (with_reducible repeat (first | refine blk_drewN ?_ _ | refine blk_drew ?_ | refine blk_alloc ?_ _)); refine blk_far ?_ NB140_142.out _; (with_reducible repeat (first | refine blk_drewN ?_ _ | refine blk_drew ?_ | refine blk_alloc ?_ _)); exact BK140.out⟩, ⟨tH⟩⟩
    ·rw [if_neg c4] at H
     exact absurd H (by simp)
   ·rw [if_neg c3] at H
    have c3b0 : decide (x5_1 < (l0_1.length : Int)) = false := decide_eq_false c3
    clear c3
    simp only [Option.some.injEq, Prod.mk.injEq] at H
    obtain ⟨rfl, rfl, rfl⟩ := H
    have hcz30_0 : wr.cell? ⟨gb140, 0, none⟩ = some (.slice A0_0 l0_0.length c0_0) := (blk_cell BK140.out 0).trans rfl
    have hcz30_1 : wr.cell? ⟨gb140, 1, none⟩ = some (.slice A0_1 l0_1.length c0_1) := (blk_cell BK140.out 1).trans rfl
    have hcz30_2 : wr.cell? ⟨gb140, 2, none⟩ = some (.slice A0_2 l0_2.length c0_2) := (blk_cell BK140.out 2).trans rfl
    have hfz30_0 := blk_frozen BK140.out 0
    have hfz30_1 := blk_frozen BK140.out 1
    have hfz30_2 := blk_frozen BK140.out 2
    go_wp2
    go_ret3
    exact ⟨by first | rfl | (simp [errW_none, errW_some] <;> rfl) | (simp [*, errW_none, errW_some] <;> rfl), tH⟩

end Go.Proofs.Ytcnjnollmamifaa.P
