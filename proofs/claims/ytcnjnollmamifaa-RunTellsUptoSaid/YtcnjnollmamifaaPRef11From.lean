-- written by a program (wip/tools/pr.py: the kit's print over this seat)
import Derived.Test.YtcnjnollmamifaaPKinds
import Derived.Test.YtcnjnollmamifaaPRef10Write
namespace Go.Proofs.Ytcnjnollmamifaa.P
open Go.RowKit Go.Proofs.YtcnjnollmamifaaW.PrintWords Go.Proofs.YtcnjnollmamifaaW.PrintLast Go.Proofs.YtcnjnollmamifaaW.PrintMore
attribute [local go_sem] max2_int min2_int max_two min_two max_three min_three max_four min_four   -- for this text's walks alone
set_option linter.unusedVariables false
set_option linter.unusedSimpArgs false

/-! ### eyewitnessref11_From: function 25 -/
def eyewitnessref11_From.l0 : Nat → List Int → Int → List ByteArray → List (S40) → List Int → Option (List Int)
 | 0, _, _, _, _, _ => none
 | k + 1, x3, x4, x146000, x146001, x146002 => if x4 < (x146001.length : Int) then (if 0 ≤ x4 then ((eyewitnessref10_Write.f k x146000 x146001 x146002 ((rd_T40 x146001 x4).f3) ((rd_T40 x146001 x4).f4)).bind fun bt148 => (if (rd_T40 x146001 x4).f2 = true then (if x3.length < 17592186044416 then (eyewitnessref11_From.l0 k (x3 ++ [(-3)]) (wrap64 (x4 + 1)) x146000 x146001 x146002) else (none)) else (if ((rd_T40 x146001 x4).f4) = 0 then (if x3.length < 17592186044416 then (eyewitnessref11_From.l0 k (x3 ++ [(-1)]) (wrap64 (x4 + 1)) x146000 x146001 x146002) else (none)) else (if bt148.2 = true then (if x3.length < 17592186044416 then (eyewitnessref11_From.l0 k (x3 ++ [bt148.1]) (wrap64 (x4 + 1)) x146000 x146001 x146002) else (none)) else (if x3.length < 17592186044416 then (eyewitnessref11_From.l0 k (x3 ++ [(-2)]) (wrap64 (x4 + 1)) x146000 x146001 x146002) else (none)))))) else (none)) else (some x3)
def eyewitnessref11_From.f (k : Nat) (l0_0 : List ByteArray) (l0_1 : List (S40)) (l0_2 : List Int) : Option (List Int) := eyewitnessref11_From.l0 k ([] : List Int) 0 l0_0 l0_1 l0_2
theorem eyewitnessref11_From.mono_l : ∀ k, (∀ y0 y1 y2 y3 y4, LeO (eyewitnessref11_From.l0 k y0 y1 y2 y3 y4) (eyewitnessref11_From.l0 (k + 1) y0 y1 y2 y3 y4))
 | 0 => fun _ _ _ _ _ r h => by simp [eyewitnessref11_From.l0] at h
 | k + 1 => by
  have ih0 := eyewitnessref11_From.mono_l k
  ·intro y0 y1 y2 y3 y4
   unfold eyewitnessref11_From.l0
   repeat' first
   | (with_reducible exact ih0 _ _ _ _ _)
   | (with_reducible exact eyewitnessref10_Write.mono _ _ _ _ _ _)
   | (with_reducible exact LeO.refl _)
   | (with_reducible exact LeO.none _)
   | (with_reducible refine LeO.ite ?_ ?_)
   | (with_reducible refine LeO.bind ?_ (fun _ => ?_))
   | exact ih0 _ _ _ _ _
   | exact eyewitnessref10_Write.mono _ _ _ _ _ _
   | exact LeO.none _
   | refine LeO.ite ?_ ?_
   | refine LeO.bind ?_ (fun _ => ?_)
theorem eyewitnessref11_From.mono : ∀ a0 a1 a2 k, LeO (eyewitnessref11_From.f k a0 a1 a2) (eyewitnessref11_From.f (k + 1) a0 a1 a2) := by
 intro a0 a1 a2 k
 have ih0 := eyewitnessref11_From.mono_l k
 unfold eyewitnessref11_From.f
 repeat' first
   | (with_reducible exact ih0 _ _ _ _ _)
   | (with_reducible exact eyewitnessref10_Write.mono _ _ _ _ _ _)
   | (with_reducible exact LeO.refl _)
   | (with_reducible exact LeO.none _)
   | (with_reducible refine LeO.ite ?_ ?_)
   | (with_reducible refine LeO.bind ?_ (fun _ => ?_))
   | exact ih0 _ _ _ _ _
   | exact eyewitnessref10_Write.mono _ _ _ _ _ _
   | exact LeO.none _
   | refine LeO.ite ?_ ?_
   | refine LeO.bind ?_ (fun _ => ?_)
set_option maxHeartbeats 8000000 in
set_option maxRecDepth 100000 in
theorem eyewitnessref11_From.calls (k : Nat) (A0_0 : Option Addr) (c0_0 : Nat) (l0_0 : List ByteArray) (A0_1 : Option Addr) (c0_1 : Nat) (l0_1 : List (S40)) (A0_2 : Option Addr) (c0_2 : Nat) (l0_2 : List Int) (r : List Int) (w : World) (hr0_0 : Kd.C Kd.string w A0_0 l0_0.length l0_0) (hc0_0 : l0_0.length ≤ c0_0) (hr0_1 : Kd.C k40 w A0_1 l0_1.length l0_1) (hc0_1 : l0_1.length ≤ c0_1) (hr0_2 : Kd.C (Kd.int .i64) w A0_2 l0_2.length l0_2) (hc0_2 : l0_2.length ≤ c0_2) (h : eyewitnessref11_From.f k l0_0 l0_1 l0_2 = some r) :
  Calls Try.prog 25 #[.agg #[.slice A0_0 l0_0.length c0_0, .slice A0_1 l0_1.length c0_1, .slice A0_2 l0_2.length c0_2]] w fun e w' => ∃ v0_ : Value, e = .returned (v0_) ∧ Kd.R (Kd.int .i64) 3 w' w.heap.size (fun _ => True) v0_ r ∧ Below w.heap.size w w' := by
 have hu31 := Try.underlying31
 have hu40 := Try.underlying40
 have HR0_0 := Aside0.mk hr0_0
 have HC0_0 := Aside0.mk hc0_0
 clear hr0_0 hc0_0
 have HR0_1 := Aside0.mk hr0_1
 have HC0_1 := Aside0.mk hc0_1
 clear hr0_1 hc0_1
 have HR0_2 := Aside0.mk hr0_2
 have HC0_2 := Aside0.mk hc0_2
 clear hr0_2 hc0_2
 have HB := Aside0.mk (Below.refl w.heap.size w)
 have H : (eyewitnessref11_From.l0 k ([] : List Int) 0 l0_0 l0_1 l0_2) = some r := h
 clear h
 have H' := Aside0.mk H
 clear H
 go_enter Try.func25, Try.ntmps25
 go_wp2_with (first | ((with_reducible refine gate_dst (N := 1) rfl ?_); refine box_event ?hg (N := 1) ?hd (cs := #[.slice A0_0 l0_0.length c0_0, .slice A0_1 l0_1.length c0_1, .slice A0_2 l0_2.length c0_2]) (t := 31) ?hr ?_; (case hd => rfl); (case hg => rfl); (case hr => first | (go_simp; done) | (go_simp; rfl)); intro gb145 hg w2 hbox hb; have n0_ := Aside0.mk (below_step tH hb); have n1_ := Aside0.mk (hbox); have n2_ := Aside0.mk ((by rw [hg]; exact (below_size tH) : w.heap.size ≤ gb145)); have n3_ := Aside0.mk ((by rw [hg]; exact (below_size tH) : w.heap.size ≤ gb145)); clear HB; have HB := n0_; have BK145 := n1_; have GW145 := n2_; have GE145 := n3_; clear n0_ n1_ n2_ n3_; clear hb hbox hg))
 go_loopg [3, 4] k (fun kq v3 v4 w' => ∃ (x3_1 : List Int) (x4_1 : Int), v4 = .int .i64 x4_1 ∧ Aside0 (eyewitnessref11_From.l0 kq x3_1 x4_1 l0_0 l0_1 l0_2 = some r) ∧ Aside0 (kq ≤ k) ∧ Aside0 (Kd.R (Kd.int .i64) 3 w' w.heap.size (fun _ => True) v3 x3_1) ∧ Aside0 (w'.heap[gb145]? = some (.cells #[(.slice A0_0 l0_0.length c0_0), (.slice A0_1 l0_1.length c0_1), (.slice A0_2 l0_2.length c0_2)] 31 (0, 0))) ∧ Aside0 (Below w.heap.size w w'))
 case atStart => exact ⟨(([] : List Int)), (0), (by first | rfl | (simp; done) | (simp [*]; done)), H', ⟨Nat.le_refl _⟩, ⟨by first | exact Kd.R_nil _ _ _ _ _ | exact Kd.N_nil _ _ _ _ _ | exact Kd.V_nil _ _ _ _ _ | exact Kd.Q_nil _ _ _ _ _ | exact Kd.S_nil _ _ _ _ _⟩, ⟨by (with_reducible repeat (first | refine blk_drewN ?_ _ | refine blk_drew ?_ | refine blk_alloc ?_ _)); exact BK145.out⟩, ⟨tH⟩⟩
 case round =>
  clear H'
  try clear c2
  try clear p2
  obtain ⟨x3_1, x4_1, rfl, HA, HK1, HO_3, BK145, HB⟩ := hrel
  cases gk with
  | zero => exact absurd HA.out (by simp [eyewitnessref11_From.l0])
  | succ k1 =>
   have H := HA.out
   clear HA
   simp only [eyewitnessref11_From.l0] at H
   by_cases c3 : x4_1 < (l0_1.length : Int)
   ·rw [if_pos c3] at H
    have c3b0 : decide (x4_1 < (l0_1.length : Int)) = true := decide_eq_true c3
    clear c3
    by_cases c4 : 0 ≤ x4_1
    ·rw [if_pos c4] at H
     have c4b0 : decide (0 ≤ x4_1) = true := decide_eq_true c4
     clear c4
     replace H := Option.bind_eq_some_iff.mp H
     obtain ⟨⟨t148, t149⟩, A50, H⟩ := H
     replace H : (if (rd_T40 l0_1 x4_1).f2 = true then (if x3_1.length < 17592186044416 then (eyewitnessref11_From.l0 k1 (x3_1 ++ [(-3)]) (wrap64 (x4_1 + 1)) l0_0 l0_1 l0_2) else (none)) else (if ((rd_T40 l0_1 x4_1).f4) = 0 then (if x3_1.length < 17592186044416 then (eyewitnessref11_From.l0 k1 (x3_1 ++ [(-1)]) (wrap64 (x4_1 + 1)) l0_0 l0_1 l0_2) else (none)) else (if t149 = true then (if x3_1.length < 17592186044416 then (eyewitnessref11_From.l0 k1 (x3_1 ++ [t148]) (wrap64 (x4_1 + 1)) l0_0 l0_1 l0_2) else (none)) else (if x3_1.length < 17592186044416 then (eyewitnessref11_From.l0 k1 (x3_1 ++ [(-2)]) (wrap64 (x4_1 + 1)) l0_0 l0_1 l0_2) else (none))))) = some r := H
     have A5 := Aside0.mk A50
     clear A50
     obtain ⟨bq6, hbq6⟩ : ∃ b_ : Bool, b_ = ((rd_T40 l0_1 x4_1).f2) := ⟨_, rfl⟩
     replace H : (if bq6 = true then (if x3_1.length < 17592186044416 then (eyewitnessref11_From.l0 k1 (x3_1 ++ [(-3)]) (wrap64 (x4_1 + 1)) l0_0 l0_1 l0_2) else (none)) else (if ((rd_T40 l0_1 x4_1).f4) = 0 then (if x3_1.length < 17592186044416 then (eyewitnessref11_From.l0 k1 (x3_1 ++ [(-1)]) (wrap64 (x4_1 + 1)) l0_0 l0_1 l0_2) else (none)) else (if t149 = true then (if x3_1.length < 17592186044416 then (eyewitnessref11_From.l0 k1 (x3_1 ++ [t148]) (wrap64 (x4_1 + 1)) l0_0 l0_1 l0_2) else (none)) else (if x3_1.length < 17592186044416 then (eyewitnessref11_From.l0 k1 (x3_1 ++ [(-2)]) (wrap64 (x4_1 + 1)) l0_0 l0_1 l0_2) else (none))))) = some r := by rw [← hbq6] at H; exact H
     have Nbq6 := Aside0.mk hbq6
     clear hbq6
     by_cases c7 : bq6 = true
     ·subst c7
      have H1 : (if x3_1.length < 17592186044416 then (eyewitnessref11_From.l0 k1 (x3_1 ++ [(-3)]) (wrap64 (x4_1 + 1)) l0_0 l0_1 l0_2) else (none)) = some r := by rw [if_pos rfl] at H; exact H
      clear H
      have H := H1
      clear H1
      by_cases c8 : x3_1.length < 17592186044416
      ·rw [if_pos c8] at H
       have LMc8 := Aside0.mk c8
       clear c8
       obtain ⟨y150, hy150⟩ : ∃ y_ : List Int, y_ = (x3_1 ++ [(-3)]) := ⟨_, rfl⟩
       replace H : (eyewitnessref11_From.l0 k1 y150 (wrap64 (x4_1 + 1)) l0_0 l0_1 l0_2) = some r := by first | (rw [hy150]; with_reducible exact H) | (have H2_ := (Option.bind_some _ _).symm.trans H; rw [hy150]; with_reducible exact H2_) | (have H2_ := (Option.bind_some _ _).symm.trans H; with_reducible exact H2_) | with_reducible exact H | (rw [hy150]; exact H) | exact H
       have Ny150 := Aside0.mk hy150
       clear hy150
       have H' := Aside0.mk H
       clear H
       have hcz9_0 : wr.cell? ⟨gb145, 0, none⟩ = some (.slice A0_0 l0_0.length c0_0) := (blk_cell BK145.out 0).trans rfl
       have hcz9_1 : wr.cell? ⟨gb145, 1, none⟩ = some (.slice A0_1 l0_1.length c0_1) := (blk_cell BK145.out 1).trans rfl
       have hcz9_2 : wr.cell? ⟨gb145, 2, none⟩ = some (.slice A0_2 l0_2.length c0_2) := (blk_cell BK145.out 2).trans rfl
       have hfz9_0 := blk_frozen BK145.out 0
       have hfz9_1 := blk_frozen BK145.out 1
       have hfz9_2 := blk_frozen BK145.out 2
       have p146 : 0 ≤ (x4_1 : Int) := of_decide_eq_true aS
       have q146 : x4_1 < (l0_1.length : Int) := of_decide_eq_true aS
       obtain ⟨ad146, e146, hx146_0, hx146_1, hx146_2, hx146_3, hx146_4⟩ := at_T40 HR0_1.out x4_1 p146 q146
       (try rw [← Nbq6.out] at hx146_2)
       cases e146
       replace hx146_0 := pw_cell_below HB.out hx146_0
       replace hx146_1 := pw_cell_below HB.out hx146_1
       replace hx146_2 := pw_cell_below HB.out hx146_2
       replace hx146_3 := pw_cell_below HB.out hx146_3
       replace hx146_4 := pw_cell_below HB.out hx146_4
       replace p146 := eq_true p146
       replace q146 := eq_true q146
       go_wp2_with (first | ((with_reducible refine gate_dst (N := 5) rfl ?_); refine box_event ?hg (N := 5) ?hd (cs := #[.int .i64 0, .int .i64 0, .bool false, .int .i64 0, .int .i64 0]) (t := 40) ?hr ?_; (case hd => rfl); (case hg => rfl); (case hr => first | (go_simp; done) | (go_simp; rfl)); intro gb147 hg w10 hbox hb; have n0_ := Aside0.mk (Kd.R_below (tRr HO_3) hb); have n1_ := Aside0.mk (blk_below (g := gb145) tB hb); have n2_ := Aside0.mk (below_step tH hb); have n3_ := Aside0.mk (hbox); have n4_ := Aside0.mk ((by rw [hg]; exact (below_size tH) : w.heap.size ≤ gb147)); have n5_ := Aside0.mk ((by rw [hg]; exact (below_size tH) : w.heap.size ≤ gb147)); have n6_ := Aside0.mk ((by rw [hg]; exact Nat.ne_of_lt (blk_lt (g := gb145) tB) : gb145 ≠ gb147)); have n7_ := Aside0.mk ((by rw [hg]; exact Nat.ne_of_gt (blk_lt (g := gb145) tB) : gb147 ≠ gb145)); clear HO_3; clear BK145; clear HB; have HO_3 := n0_; have BK145 := n1_; have HB := n2_; have BK147 := n3_; have GW147 := n4_; have GE147 := n5_; have NB145_147 := n6_; have NB147_145 := n7_; clear n0_ n1_ n2_ n3_ n4_ n5_ n6_ n7_; clear hb hbox hg; have hnb11 := NB147_145.out; have hnc11 := NB145_147.out; have hcz12_0 : w10.cell? ⟨gb147, 0, none⟩ = some (.int .i64 0) := (blk_cell BK147.out 0).trans rfl; have hcz12_1 : w10.cell? ⟨gb147, 1, none⟩ = some (.int .i64 0) := (blk_cell BK147.out 1).trans rfl; have hcz12_2 : w10.cell? ⟨gb147, 2, none⟩ = some (.bool false) := (blk_cell BK147.out 2).trans rfl; have hcz12_3 : w10.cell? ⟨gb147, 3, none⟩ = some (.int .i64 0) := (blk_cell BK147.out 3).trans rfl; have hcz12_4 : w10.cell? ⟨gb147, 4, none⟩ = some (.int .i64 0) := (blk_cell BK147.out 4).trans rfl; have hfz12_0 := blk_frozen BK147.out 0; have hfz12_1 := blk_frozen BK147.out 1; have hfz12_2 := blk_frozen BK147.out 2; have hfz12_3 := blk_frozen BK147.out 3; have hfz12_4 := blk_frozen BK147.out 4; have hcz13_0 : w10.cell? ⟨gb145, 0, none⟩ = some (.slice A0_0 l0_0.length c0_0) := (blk_cell BK145.out 0).trans rfl; have hcz13_1 : w10.cell? ⟨gb145, 1, none⟩ = some (.slice (some ad146) l0_1.length c0_1) := (blk_cell BK145.out 1).trans rfl; have hcz13_2 : w10.cell? ⟨gb145, 2, none⟩ = some (.slice A0_2 l0_2.length c0_2) := (blk_cell BK145.out 2).trans rfl; have hfz13_0 := blk_frozen BK145.out 0; have hfz13_1 := blk_frozen BK145.out 1; have hfz13_2 := blk_frozen BK145.out 2) | ((with_reducible refine gate_callee (f := 24) rfl ?_); refine goesL_ (some 27) rfl rfl Try.func24 (by kernel_rfl) rfl #[.agg #[.slice A0_0 l0_0.length c0_0, .slice (some ad146) l0_1.length c0_1, .slice A0_2 l0_2.length c0_2], .int .i64 ((rd_T40 l0_1 x4_1).f3), .int .i64 ((rd_T40 l0_1 x4_1).f4)] rfl (by (try simp only [List.map_toArray, List.map_cons, List.map_nil]); first | done | rfl | (simp only [List.length_drop, List.length_take]; rfl)) ?_; (with_reducible refine (eyewitnessref10_Write.calls k1 _ _ l0_0 _ _ l0_1 _ _ l0_2 ((rd_T40 l0_1 x4_1).f3) ((rd_T40 l0_1 x4_1).f4) t148 t149 _ ?side1 ?side2 ?side3 ?side4 ?side5 ?side6 A5.out).mono ?_); (case side1 => exact Kd.C_below HR0_0.out tH); (case side2 => exact HC0_0.out); (case side3 => exact Kd.C_below HR0_1.out tH); (case side4 => exact HC0_1.out); (case side5 => exact Kd.C_below HR0_2.out tH); (case side6 => exact HC0_2.out); rintro e w14 ⟨rfl, hb⟩; refine ⟨_, rfl, ?_⟩; have n0_ := Aside0.mk (Kd.R_below (by (with_reducible repeat (first | apply Kd.R_alloc | apply Kd.R_drewN | apply Kd.R_drew)); exact (Kd.R_mono (Kd.R_far (p := ⟨gb147, 4, none⟩) (Kd.R_far (p := ⟨gb147, 3, none⟩) (Kd.R_far (p := ⟨gb147, 2, none⟩) (Kd.R_far (p := ⟨gb147, 1, none⟩) (Kd.R_far (p := ⟨gb147, 0, none⟩) (Kd.R_types HO_3.out BK147.out (by decide)) (fun _ hk => hk.2) (.int .i64 ((rd_T40 l0_1 x4_1).f0))) (fun _ hk => hk.2) (.int .i64 ((rd_T40 l0_1 x4_1).f1))) (fun _ hk => hk.2) (.bool true)) (fun _ hk => hk.2) (.int .i64 ((rd_T40 l0_1 x4_1).f3))) (fun _ hk => hk.2) (.int .i64 ((rd_T40 l0_1 x4_1).f4))) (fun _ h_ => h_.1))) hb); have n1_ := Aside0.mk (blk_below (g := gb145) (o := .cells #[.slice A0_0 l0_0.length c0_0, .slice (some ad146) l0_1.length c0_1, .slice A0_2 l0_2.length c0_2] 31 (0, 0)) (by (with_reducible repeat (first | refine blk_drewN ?_ _ | refine blk_drew ?_ | refine blk_alloc ?_ _)); refine blk_far ?_ NB145_147.out _; (with_reducible repeat (first | refine blk_drewN ?_ _ | refine blk_drew ?_ | refine blk_alloc ?_ _)); refine blk_far ?_ NB145_147.out _; (with_reducible repeat (first | refine blk_drewN ?_ _ | refine blk_drew ?_ | refine blk_alloc ?_ _)); refine blk_far ?_ NB145_147.out _; (with_reducible repeat (first | refine blk_drewN ?_ _ | refine blk_drew ?_ | refine blk_alloc ?_ _)); refine blk_far ?_ NB145_147.out _; (with_reducible repeat (first | refine blk_drewN ?_ _ | refine blk_drew ?_ | refine blk_alloc ?_ _)); refine blk_far ?_ NB145_147.out _; (with_reducible repeat (first | refine blk_drewN ?_ _ | refine blk_drew ?_ | refine blk_alloc ?_ _)); exact BK145.out) hb); have n2_ := Aside0.mk (blk_below (g := gb147) (o := .cells #[.int .i64 ((rd_T40 l0_1 x4_1).f0), .int .i64 ((rd_T40 l0_1 x4_1).f1), .bool true, .int .i64 ((rd_T40 l0_1 x4_1).f3), .int .i64 ((rd_T40 l0_1 x4_1).f4)] 40 (0, 0)) (by (with_reducible repeat (first | refine blk_drewN ?_ _ | refine blk_drew ?_ | refine blk_alloc ?_ _)); refine blk_put (cs := #[.int .i64 ((rd_T40 l0_1 x4_1).f0), .int .i64 ((rd_T40 l0_1 x4_1).f1), .bool true, .int .i64 ((rd_T40 l0_1 x4_1).f3), .int .i64 0]) ?_ 4 _ rfl; (with_reducible repeat (first | refine blk_drewN ?_ _ | refine blk_drew ?_ | refine blk_alloc ?_ _)); refine blk_put (cs := #[.int .i64 ((rd_T40 l0_1 x4_1).f0), .int .i64 ((rd_T40 l0_1 x4_1).f1), .bool true, .int .i64 0, .int .i64 0]) ?_ 3 _ rfl; (with_reducible repeat (first | refine blk_drewN ?_ _ | refine blk_drew ?_ | refine blk_alloc ?_ _)); refine blk_put (cs := #[.int .i64 ((rd_T40 l0_1 x4_1).f0), .int .i64 ((rd_T40 l0_1 x4_1).f1), .bool false, .int .i64 0, .int .i64 0]) ?_ 2 _ rfl; (with_reducible repeat (first | refine blk_drewN ?_ _ | refine blk_drew ?_ | refine blk_alloc ?_ _)); refine blk_put (cs := #[.int .i64 ((rd_T40 l0_1 x4_1).f0), .int .i64 0, .bool false, .int .i64 0, .int .i64 0]) ?_ 1 _ rfl; (with_reducible repeat (first | refine blk_drewN ?_ _ | refine blk_drew ?_ | refine blk_alloc ?_ _)); refine blk_put (cs := #[.int .i64 0, .int .i64 0, .bool false, .int .i64 0, .int .i64 0]) ?_ 0 _ rfl; (with_reducible repeat (first | refine blk_drewN ?_ _ | refine blk_drew ?_ | refine blk_alloc ?_ _)); exact BK147.out) hb); have n3_ := Aside0.mk (below_step tH hb); clear HO_3; clear BK145; clear BK147; clear HB; have HO_3 := n0_; have BK145 := n1_; have BK147 := n2_; have HB := n3_; clear n0_ n1_ n2_ n3_; (try clear hb); (try clear hb2); (try clear hk); (try clear hi); have hcz15_0 : w14.cell? ⟨gb147, 0, none⟩ = some (.int .i64 ((rd_T40 l0_1 x4_1).f0)) := (blk_cell BK147.out 0).trans rfl; have hcz15_1 : w14.cell? ⟨gb147, 1, none⟩ = some (.int .i64 ((rd_T40 l0_1 x4_1).f1)) := (blk_cell BK147.out 1).trans rfl; have hcz15_2 : w14.cell? ⟨gb147, 2, none⟩ = some (.bool true) := (blk_cell BK147.out 2).trans rfl; have hcz15_3 : w14.cell? ⟨gb147, 3, none⟩ = some (.int .i64 ((rd_T40 l0_1 x4_1).f3)) := (blk_cell BK147.out 3).trans rfl; have hcz15_4 : w14.cell? ⟨gb147, 4, none⟩ = some (.int .i64 ((rd_T40 l0_1 x4_1).f4)) := (blk_cell BK147.out 4).trans rfl; have hfz15_0 := blk_frozen BK147.out 0; have hfz15_1 := blk_frozen BK147.out 1; have hfz15_2 := blk_frozen BK147.out 2; have hfz15_3 := blk_frozen BK147.out 3; have hfz15_4 := blk_frozen BK147.out 4) | ((with_reducible refine gate_builtin (b := .append) (xs := #[.tmp 37, .tmp 39]) rfl ?_); at_builtin; refine Kd.R_append (Kd.int .i64) (w0 := w) w.heap.size rfl (.tmp 37) (.tmp 39) 23 3 (.int .i64 0) 8 rfl Try.underlying23 info3 rfl (by decide) (by omega) u3 x3_1 (-3) [.int .i64 (-3)] (fun _ => True) (fun _ => False) rfl rfl ?aP (fun _ hk => hk.elim) ?aF ?aO ?aB ?aS ?aL ?_; (case aP => exact rfl); (case aB => exact tH); (case aF => exact (fun _ _ => trivial)); (case aO => exact (tRr HO_3)); (case aS => exact (below_size tH)); (case aL => have := LMc8.out; omega); intro v151 w16 ho hb hg hat; rw [← Ny150.out] at ho; have n0_ := Aside0.mk (blk_grown (g := gb145) tB hg (Kd.R_ne HO_3.out BK145.out (by decide))); have n1_ := Aside0.mk (blk_grown (g := gb147) tB hg (Kd.R_ne HO_3.out BK147.out (by decide))); have n2_ := Aside0.mk (hb); have n3_ := Aside0.mk (ho); clear BK145; clear BK147; clear HB; clear HO_3; have BK145 := n0_; have BK147 := n1_; have HB := n2_; have HO152 := n3_; clear n0_ n1_ n2_ n3_; clear ho hb hg hat))
       go_roundg k1
       case measure => have := HK1.out; omega
       case rel => exact ⟨(y150), (wrap64 (x4_1 + 1)), (by first | rfl | (simp; done) | (simp [*]; done)), H', ⟨by have := HK1.out; omega⟩, ⟨by (with_reducible repeat (first | apply Kd.R_alloc | apply Kd.R_drewN | apply Kd.R_drew)); exact HO152.out⟩, ⟨by (with_reducible repeat (first | refine blk_drewN ?_ _ | refine blk_drew ?_ | refine blk_alloc ?_ _)); exact BK145.out⟩, ⟨tH⟩⟩
      ·rw [if_neg c8] at H
       exact absurd H (by simp)
     ·replace c7 := Bool.eq_false_iff.mpr c7
      subst c7
      have H1 : (if ((rd_T40 l0_1 x4_1).f4) = 0 then (if x3_1.length < 17592186044416 then (eyewitnessref11_From.l0 k1 (x3_1 ++ [(-1)]) (wrap64 (x4_1 + 1)) l0_0 l0_1 l0_2) else (none)) else (if t149 = true then (if x3_1.length < 17592186044416 then (eyewitnessref11_From.l0 k1 (x3_1 ++ [t148]) (wrap64 (x4_1 + 1)) l0_0 l0_1 l0_2) else (none)) else (if x3_1.length < 17592186044416 then (eyewitnessref11_From.l0 k1 (x3_1 ++ [(-2)]) (wrap64 (x4_1 + 1)) l0_0 l0_1 l0_2) else (none)))) = some r := by rw [if_neg (show ¬ (false = true) by decide)] at H; exact H
      clear H
      have H := H1
      clear H1
      by_cases c17 : ((rd_T40 l0_1 x4_1).f4) = 0
      ·rw [if_pos c17] at H
       have c17b0 : (((rd_T40 l0_1 x4_1).f4) == 0) = true := beq_iff_eq.mpr c17
       have c17b1 : (((rd_T40 l0_1 x4_1).f4) != 0) = false := bne_eq_false_iff_eq.mpr c17
       clear c17
       by_cases c18 : x3_1.length < 17592186044416
       ·rw [if_pos c18] at H
        have LMc18 := Aside0.mk c18
        clear c18
        obtain ⟨y153, hy153⟩ : ∃ y_ : List Int, y_ = (x3_1 ++ [(-1)]) := ⟨_, rfl⟩
        replace H : (eyewitnessref11_From.l0 k1 y153 (wrap64 (x4_1 + 1)) l0_0 l0_1 l0_2) = some r := by first | (rw [hy153]; with_reducible exact H) | (have H2_ := (Option.bind_some _ _).symm.trans H; rw [hy153]; with_reducible exact H2_) | (have H2_ := (Option.bind_some _ _).symm.trans H; with_reducible exact H2_) | with_reducible exact H | (rw [hy153]; exact H) | exact H
        have Ny153 := Aside0.mk hy153
        clear hy153
        have H' := Aside0.mk H
        clear H
        have hcz19_0 : wr.cell? ⟨gb145, 0, none⟩ = some (.slice A0_0 l0_0.length c0_0) := (blk_cell BK145.out 0).trans rfl
        have hcz19_1 : wr.cell? ⟨gb145, 1, none⟩ = some (.slice A0_1 l0_1.length c0_1) := (blk_cell BK145.out 1).trans rfl
        have hcz19_2 : wr.cell? ⟨gb145, 2, none⟩ = some (.slice A0_2 l0_2.length c0_2) := (blk_cell BK145.out 2).trans rfl
        have hfz19_0 := blk_frozen BK145.out 0
        have hfz19_1 := blk_frozen BK145.out 1
        have hfz19_2 := blk_frozen BK145.out 2
        have p146 : 0 ≤ (x4_1 : Int) := of_decide_eq_true aS
        have q146 : x4_1 < (l0_1.length : Int) := of_decide_eq_true aS
        obtain ⟨ad146, e146, hx146_0, hx146_1, hx146_2, hx146_3, hx146_4⟩ := at_T40 HR0_1.out x4_1 p146 q146
        (try rw [← Nbq6.out] at hx146_2)
        cases e146
        replace hx146_0 := pw_cell_below HB.out hx146_0
        replace hx146_1 := pw_cell_below HB.out hx146_1
        replace hx146_2 := pw_cell_below HB.out hx146_2
        replace hx146_3 := pw_cell_below HB.out hx146_3
        replace hx146_4 := pw_cell_below HB.out hx146_4
        replace p146 := eq_true p146
        replace q146 := eq_true q146
        go_wp2_with (first | ((with_reducible refine gate_dst (N := 5) rfl ?_); refine box_event ?hg (N := 5) ?hd (cs := #[.int .i64 0, .int .i64 0, .bool false, .int .i64 0, .int .i64 0]) (t := 40) ?hr ?_; (case hd => rfl); (case hg => rfl); (case hr => first | (go_simp; done) | (go_simp; rfl)); intro gb147 hg w20 hbox hb; have n0_ := Aside0.mk (Kd.R_below (tRr HO_3) hb); have n1_ := Aside0.mk (blk_below (g := gb145) tB hb); have n2_ := Aside0.mk (below_step tH hb); have n3_ := Aside0.mk (hbox); have n4_ := Aside0.mk ((by rw [hg]; exact (below_size tH) : w.heap.size ≤ gb147)); have n5_ := Aside0.mk ((by rw [hg]; exact (below_size tH) : w.heap.size ≤ gb147)); have n6_ := Aside0.mk ((by rw [hg]; exact Nat.ne_of_lt (blk_lt (g := gb145) tB) : gb145 ≠ gb147)); have n7_ := Aside0.mk ((by rw [hg]; exact Nat.ne_of_gt (blk_lt (g := gb145) tB) : gb147 ≠ gb145)); clear HO_3; clear BK145; clear HB; have HO_3 := n0_; have BK145 := n1_; have HB := n2_; have BK147 := n3_; have GW147 := n4_; have GE147 := n5_; have NB145_147 := n6_; have NB147_145 := n7_; clear n0_ n1_ n2_ n3_ n4_ n5_ n6_ n7_; clear hb hbox hg; have hnb21 := NB147_145.out; have hnc21 := NB145_147.out; have hcz22_0 : w20.cell? ⟨gb147, 0, none⟩ = some (.int .i64 0) := (blk_cell BK147.out 0).trans rfl; have hcz22_1 : w20.cell? ⟨gb147, 1, none⟩ = some (.int .i64 0) := (blk_cell BK147.out 1).trans rfl; have hcz22_2 : w20.cell? ⟨gb147, 2, none⟩ = some (.bool false) := (blk_cell BK147.out 2).trans rfl; have hcz22_3 : w20.cell? ⟨gb147, 3, none⟩ = some (.int .i64 0) := (blk_cell BK147.out 3).trans rfl; have hcz22_4 : w20.cell? ⟨gb147, 4, none⟩ = some (.int .i64 0) := (blk_cell BK147.out 4).trans rfl; have hfz22_0 := blk_frozen BK147.out 0; have hfz22_1 := blk_frozen BK147.out 1; have hfz22_2 := blk_frozen BK147.out 2; have hfz22_3 := blk_frozen BK147.out 3; have hfz22_4 := blk_frozen BK147.out 4; have hcz23_0 : w20.cell? ⟨gb145, 0, none⟩ = some (.slice A0_0 l0_0.length c0_0) := (blk_cell BK145.out 0).trans rfl; have hcz23_1 : w20.cell? ⟨gb145, 1, none⟩ = some (.slice (some ad146) l0_1.length c0_1) := (blk_cell BK145.out 1).trans rfl; have hcz23_2 : w20.cell? ⟨gb145, 2, none⟩ = some (.slice A0_2 l0_2.length c0_2) := (blk_cell BK145.out 2).trans rfl; have hfz23_0 := blk_frozen BK145.out 0; have hfz23_1 := blk_frozen BK145.out 1; have hfz23_2 := blk_frozen BK145.out 2) | ((with_reducible refine gate_callee (f := 24) rfl ?_); refine goesL_ (some 27) rfl rfl Try.func24 (by kernel_rfl) rfl #[.agg #[.slice A0_0 l0_0.length c0_0, .slice (some ad146) l0_1.length c0_1, .slice A0_2 l0_2.length c0_2], .int .i64 ((rd_T40 l0_1 x4_1).f3), .int .i64 ((rd_T40 l0_1 x4_1).f4)] rfl (by (try simp only [List.map_toArray, List.map_cons, List.map_nil]); first | done | rfl | (simp only [List.length_drop, List.length_take]; rfl)) ?_; (with_reducible refine (eyewitnessref10_Write.calls k1 _ _ l0_0 _ _ l0_1 _ _ l0_2 ((rd_T40 l0_1 x4_1).f3) ((rd_T40 l0_1 x4_1).f4) t148 t149 _ ?side1 ?side2 ?side3 ?side4 ?side5 ?side6 A5.out).mono ?_); (case side1 => exact Kd.C_below HR0_0.out tH); (case side2 => exact HC0_0.out); (case side3 => exact Kd.C_below HR0_1.out tH); (case side4 => exact HC0_1.out); (case side5 => exact Kd.C_below HR0_2.out tH); (case side6 => exact HC0_2.out); rintro e w24 ⟨rfl, hb⟩; refine ⟨_, rfl, ?_⟩; have n0_ := Aside0.mk (Kd.R_below (by (with_reducible repeat (first | apply Kd.R_alloc | apply Kd.R_drewN | apply Kd.R_drew)); exact (Kd.R_mono (Kd.R_far (p := ⟨gb147, 4, none⟩) (Kd.R_far (p := ⟨gb147, 3, none⟩) (Kd.R_far (p := ⟨gb147, 2, none⟩) (Kd.R_far (p := ⟨gb147, 1, none⟩) (Kd.R_far (p := ⟨gb147, 0, none⟩) (Kd.R_types HO_3.out BK147.out (by decide)) (fun _ hk => hk.2) (.int .i64 ((rd_T40 l0_1 x4_1).f0))) (fun _ hk => hk.2) (.int .i64 ((rd_T40 l0_1 x4_1).f1))) (fun _ hk => hk.2) (.bool false)) (fun _ hk => hk.2) (.int .i64 ((rd_T40 l0_1 x4_1).f3))) (fun _ hk => hk.2) (.int .i64 ((rd_T40 l0_1 x4_1).f4))) (fun _ h_ => h_.1))) hb); have n1_ := Aside0.mk (blk_below (g := gb145) (o := .cells #[.slice A0_0 l0_0.length c0_0, .slice (some ad146) l0_1.length c0_1, .slice A0_2 l0_2.length c0_2] 31 (0, 0)) (by (with_reducible repeat (first | refine blk_drewN ?_ _ | refine blk_drew ?_ | refine blk_alloc ?_ _)); refine blk_far ?_ NB145_147.out _; (with_reducible repeat (first | refine blk_drewN ?_ _ | refine blk_drew ?_ | refine blk_alloc ?_ _)); refine blk_far ?_ NB145_147.out _; (with_reducible repeat (first | refine blk_drewN ?_ _ | refine blk_drew ?_ | refine blk_alloc ?_ _)); refine blk_far ?_ NB145_147.out _; (with_reducible repeat (first | refine blk_drewN ?_ _ | refine blk_drew ?_ | refine blk_alloc ?_ _)); refine blk_far ?_ NB145_147.out _; (with_reducible repeat (first | refine blk_drewN ?_ _ | refine blk_drew ?_ | refine blk_alloc ?_ _)); refine blk_far ?_ NB145_147.out _; (with_reducible repeat (first | refine blk_drewN ?_ _ | refine blk_drew ?_ | refine blk_alloc ?_ _)); exact BK145.out) hb); have n2_ := Aside0.mk (blk_below (g := gb147) (o := .cells #[.int .i64 ((rd_T40 l0_1 x4_1).f0), .int .i64 ((rd_T40 l0_1 x4_1).f1), .bool false, .int .i64 ((rd_T40 l0_1 x4_1).f3), .int .i64 ((rd_T40 l0_1 x4_1).f4)] 40 (0, 0)) (by (with_reducible repeat (first | refine blk_drewN ?_ _ | refine blk_drew ?_ | refine blk_alloc ?_ _)); refine blk_put (cs := #[.int .i64 ((rd_T40 l0_1 x4_1).f0), .int .i64 ((rd_T40 l0_1 x4_1).f1), .bool false, .int .i64 ((rd_T40 l0_1 x4_1).f3), .int .i64 0]) ?_ 4 _ rfl; (with_reducible repeat (first | refine blk_drewN ?_ _ | refine blk_drew ?_ | refine blk_alloc ?_ _)); refine blk_put (cs := #[.int .i64 ((rd_T40 l0_1 x4_1).f0), .int .i64 ((rd_T40 l0_1 x4_1).f1), .bool false, .int .i64 0, .int .i64 0]) ?_ 3 _ rfl; (with_reducible repeat (first | refine blk_drewN ?_ _ | refine blk_drew ?_ | refine blk_alloc ?_ _)); refine blk_put (cs := #[.int .i64 ((rd_T40 l0_1 x4_1).f0), .int .i64 ((rd_T40 l0_1 x4_1).f1), .bool false, .int .i64 0, .int .i64 0]) ?_ 2 _ rfl; (with_reducible repeat (first | refine blk_drewN ?_ _ | refine blk_drew ?_ | refine blk_alloc ?_ _)); refine blk_put (cs := #[.int .i64 ((rd_T40 l0_1 x4_1).f0), .int .i64 0, .bool false, .int .i64 0, .int .i64 0]) ?_ 1 _ rfl; (with_reducible repeat (first | refine blk_drewN ?_ _ | refine blk_drew ?_ | refine blk_alloc ?_ _)); refine blk_put (cs := #[.int .i64 0, .int .i64 0, .bool false, .int .i64 0, .int .i64 0]) ?_ 0 _ rfl; (with_reducible repeat (first | refine blk_drewN ?_ _ | refine blk_drew ?_ | refine blk_alloc ?_ _)); exact BK147.out) hb); have n3_ := Aside0.mk (below_step tH hb); clear HO_3; clear BK145; clear BK147; clear HB; have HO_3 := n0_; have BK145 := n1_; have BK147 := n2_; have HB := n3_; clear n0_ n1_ n2_ n3_; (try clear hb); (try clear hb2); (try clear hk); (try clear hi); have hcz25_0 : w24.cell? ⟨gb147, 0, none⟩ = some (.int .i64 ((rd_T40 l0_1 x4_1).f0)) := (blk_cell BK147.out 0).trans rfl; have hcz25_1 : w24.cell? ⟨gb147, 1, none⟩ = some (.int .i64 ((rd_T40 l0_1 x4_1).f1)) := (blk_cell BK147.out 1).trans rfl; have hcz25_2 : w24.cell? ⟨gb147, 2, none⟩ = some (.bool false) := (blk_cell BK147.out 2).trans rfl; have hcz25_3 : w24.cell? ⟨gb147, 3, none⟩ = some (.int .i64 ((rd_T40 l0_1 x4_1).f3)) := (blk_cell BK147.out 3).trans rfl; have hcz25_4 : w24.cell? ⟨gb147, 4, none⟩ = some (.int .i64 ((rd_T40 l0_1 x4_1).f4)) := (blk_cell BK147.out 4).trans rfl; have hfz25_0 := blk_frozen BK147.out 0; have hfz25_1 := blk_frozen BK147.out 1; have hfz25_2 := blk_frozen BK147.out 2; have hfz25_3 := blk_frozen BK147.out 3; have hfz25_4 := blk_frozen BK147.out 4) | ((with_reducible refine gate_builtin (b := .append) (xs := #[.tmp 37, .tmp 39]) rfl ?_); at_builtin; refine Kd.R_append (Kd.int .i64) (w0 := w) w.heap.size rfl (.tmp 37) (.tmp 39) 23 3 (.int .i64 0) 8 rfl Try.underlying23 info3 rfl (by decide) (by omega) u3 x3_1 (-1) [.int .i64 (-1)] (fun _ => True) (fun _ => False) rfl rfl ?aP (fun _ hk => hk.elim) ?aF ?aO ?aB ?aS ?aL ?_; (case aP => exact rfl); (case aB => exact tH); (case aF => exact (fun _ _ => trivial)); (case aO => exact (tRr HO_3)); (case aS => exact (below_size tH)); (case aL => have := LMc18.out; omega); intro v154 w26 ho hb hg hat; rw [← Ny153.out] at ho; have n0_ := Aside0.mk (blk_grown (g := gb145) tB hg (Kd.R_ne HO_3.out BK145.out (by decide))); have n1_ := Aside0.mk (blk_grown (g := gb147) tB hg (Kd.R_ne HO_3.out BK147.out (by decide))); have n2_ := Aside0.mk (hb); have n3_ := Aside0.mk (ho); clear BK145; clear BK147; clear HB; clear HO_3; have BK145 := n0_; have BK147 := n1_; have HB := n2_; have HO155 := n3_; clear n0_ n1_ n2_ n3_; clear ho hb hg hat))
        go_roundg k1
        case measure => have := HK1.out; omega
        case rel => exact ⟨(y153), (wrap64 (x4_1 + 1)), (by first | rfl | (simp; done) | (simp [*]; done)), H', ⟨by have := HK1.out; omega⟩, ⟨by (with_reducible repeat (first | apply Kd.R_alloc | apply Kd.R_drewN | apply Kd.R_drew)); exact HO155.out⟩, ⟨by (with_reducible repeat (first | refine blk_drewN ?_ _ | refine blk_drew ?_ | refine blk_alloc ?_ _)); exact BK145.out⟩, ⟨tH⟩⟩
       ·rw [if_neg c18] at H
        exact absurd H (by simp)
      ·rw [if_neg c17] at H
       have c17b0 : (((rd_T40 l0_1 x4_1).f4) == 0) = false := beq_eq_false_iff_ne.mpr c17
       have c17b1 : (((rd_T40 l0_1 x4_1).f4) != 0) = true := bne_iff_ne.mpr c17
       by_cases c27 : t149 = true
       ·subst c27
        have H1 : (if x3_1.length < 17592186044416 then (eyewitnessref11_From.l0 k1 (x3_1 ++ [t148]) (wrap64 (x4_1 + 1)) l0_0 l0_1 l0_2) else (none)) = some r := by rw [if_pos rfl] at H; exact H
        clear H
        have H := H1
        clear H1
        by_cases c28 : x3_1.length < 17592186044416
        ·rw [if_pos c28] at H
         have LMc28 := Aside0.mk c28
         clear c28
         obtain ⟨y156, hy156⟩ : ∃ y_ : List Int, y_ = (x3_1 ++ [t148]) := ⟨_, rfl⟩
         replace H : (eyewitnessref11_From.l0 k1 y156 (wrap64 (x4_1 + 1)) l0_0 l0_1 l0_2) = some r := by first | (rw [hy156]; with_reducible exact H) | (have H2_ := (Option.bind_some _ _).symm.trans H; rw [hy156]; with_reducible exact H2_) | (have H2_ := (Option.bind_some _ _).symm.trans H; with_reducible exact H2_) | with_reducible exact H | (rw [hy156]; exact H) | exact H
         have Ny156 := Aside0.mk hy156
         clear hy156
         have H' := Aside0.mk H
         clear H
         have hcz29_0 : wr.cell? ⟨gb145, 0, none⟩ = some (.slice A0_0 l0_0.length c0_0) := (blk_cell BK145.out 0).trans rfl
         have hcz29_1 : wr.cell? ⟨gb145, 1, none⟩ = some (.slice A0_1 l0_1.length c0_1) := (blk_cell BK145.out 1).trans rfl
         have hcz29_2 : wr.cell? ⟨gb145, 2, none⟩ = some (.slice A0_2 l0_2.length c0_2) := (blk_cell BK145.out 2).trans rfl
         have hfz29_0 := blk_frozen BK145.out 0
         have hfz29_1 := blk_frozen BK145.out 1
         have hfz29_2 := blk_frozen BK145.out 2
         have p146 : 0 ≤ (x4_1 : Int) := of_decide_eq_true aS
         have q146 : x4_1 < (l0_1.length : Int) := of_decide_eq_true aS
         obtain ⟨ad146, e146, hx146_0, hx146_1, hx146_2, hx146_3, hx146_4⟩ := at_T40 HR0_1.out x4_1 p146 q146
         (try rw [← Nbq6.out] at hx146_2)
         cases e146
         replace hx146_0 := pw_cell_below HB.out hx146_0
         replace hx146_1 := pw_cell_below HB.out hx146_1
         replace hx146_2 := pw_cell_below HB.out hx146_2
         replace hx146_3 := pw_cell_below HB.out hx146_3
         replace hx146_4 := pw_cell_below HB.out hx146_4
         replace p146 := eq_true p146
         replace q146 := eq_true q146
         go_wp2_with (first | ((with_reducible refine gate_dst (N := 5) rfl ?_); refine box_event ?hg (N := 5) ?hd (cs := #[.int .i64 0, .int .i64 0, .bool false, .int .i64 0, .int .i64 0]) (t := 40) ?hr ?_; (case hd => rfl); (case hg => rfl); (case hr => first | (go_simp; done) | (go_simp; rfl)); intro gb147 hg w30 hbox hb; have n0_ := Aside0.mk (Kd.R_below (tRr HO_3) hb); have n1_ := Aside0.mk (blk_below (g := gb145) tB hb); have n2_ := Aside0.mk (below_step tH hb); have n3_ := Aside0.mk (hbox); have n4_ := Aside0.mk ((by rw [hg]; exact (below_size tH) : w.heap.size ≤ gb147)); have n5_ := Aside0.mk ((by rw [hg]; exact (below_size tH) : w.heap.size ≤ gb147)); have n6_ := Aside0.mk ((by rw [hg]; exact Nat.ne_of_lt (blk_lt (g := gb145) tB) : gb145 ≠ gb147)); have n7_ := Aside0.mk ((by rw [hg]; exact Nat.ne_of_gt (blk_lt (g := gb145) tB) : gb147 ≠ gb145)); clear HO_3; clear BK145; clear HB; have HO_3 := n0_; have BK145 := n1_; have HB := n2_; have BK147 := n3_; have GW147 := n4_; have GE147 := n5_; have NB145_147 := n6_; have NB147_145 := n7_; clear n0_ n1_ n2_ n3_ n4_ n5_ n6_ n7_; clear hb hbox hg; have hnb31 := NB147_145.out; have hnc31 := NB145_147.out; have hcz32_0 : w30.cell? ⟨gb147, 0, none⟩ = some (.int .i64 0) := (blk_cell BK147.out 0).trans rfl; have hcz32_1 : w30.cell? ⟨gb147, 1, none⟩ = some (.int .i64 0) := (blk_cell BK147.out 1).trans rfl; have hcz32_2 : w30.cell? ⟨gb147, 2, none⟩ = some (.bool false) := (blk_cell BK147.out 2).trans rfl; have hcz32_3 : w30.cell? ⟨gb147, 3, none⟩ = some (.int .i64 0) := (blk_cell BK147.out 3).trans rfl; have hcz32_4 : w30.cell? ⟨gb147, 4, none⟩ = some (.int .i64 0) := (blk_cell BK147.out 4).trans rfl; have hfz32_0 := blk_frozen BK147.out 0; have hfz32_1 := blk_frozen BK147.out 1; have hfz32_2 := blk_frozen BK147.out 2; have hfz32_3 := blk_frozen BK147.out 3; have hfz32_4 := blk_frozen BK147.out 4; have hcz33_0 : w30.cell? ⟨gb145, 0, none⟩ = some (.slice A0_0 l0_0.length c0_0) := (blk_cell BK145.out 0).trans rfl; have hcz33_1 : w30.cell? ⟨gb145, 1, none⟩ = some (.slice (some ad146) l0_1.length c0_1) := (blk_cell BK145.out 1).trans rfl; have hcz33_2 : w30.cell? ⟨gb145, 2, none⟩ = some (.slice A0_2 l0_2.length c0_2) := (blk_cell BK145.out 2).trans rfl; have hfz33_0 := blk_frozen BK145.out 0; have hfz33_1 := blk_frozen BK145.out 1; have hfz33_2 := blk_frozen BK145.out 2) | ((with_reducible refine gate_callee (f := 24) rfl ?_); refine goesL_ (some 27) rfl rfl Try.func24 (by kernel_rfl) rfl #[.agg #[.slice A0_0 l0_0.length c0_0, .slice (some ad146) l0_1.length c0_1, .slice A0_2 l0_2.length c0_2], .int .i64 ((rd_T40 l0_1 x4_1).f3), .int .i64 ((rd_T40 l0_1 x4_1).f4)] rfl (by (try simp only [List.map_toArray, List.map_cons, List.map_nil]); first | done | rfl | (simp only [List.length_drop, List.length_take]; rfl)) ?_; (with_reducible refine (eyewitnessref10_Write.calls k1 _ _ l0_0 _ _ l0_1 _ _ l0_2 ((rd_T40 l0_1 x4_1).f3) ((rd_T40 l0_1 x4_1).f4) t148 true _ ?side1 ?side2 ?side3 ?side4 ?side5 ?side6 A5.out).mono ?_); (case side1 => exact Kd.C_below HR0_0.out tH); (case side2 => exact HC0_0.out); (case side3 => exact Kd.C_below HR0_1.out tH); (case side4 => exact HC0_1.out); (case side5 => exact Kd.C_below HR0_2.out tH); (case side6 => exact HC0_2.out); rintro e w34 ⟨rfl, hb⟩; refine ⟨_, rfl, ?_⟩; have n0_ := Aside0.mk (Kd.R_below (by (with_reducible repeat (first | apply Kd.R_alloc | apply Kd.R_drewN | apply Kd.R_drew)); exact (Kd.R_mono (Kd.R_far (p := ⟨gb147, 4, none⟩) (Kd.R_far (p := ⟨gb147, 3, none⟩) (Kd.R_far (p := ⟨gb147, 2, none⟩) (Kd.R_far (p := ⟨gb147, 1, none⟩) (Kd.R_far (p := ⟨gb147, 0, none⟩) (Kd.R_types HO_3.out BK147.out (by decide)) (fun _ hk => hk.2) (.int .i64 ((rd_T40 l0_1 x4_1).f0))) (fun _ hk => hk.2) (.int .i64 ((rd_T40 l0_1 x4_1).f1))) (fun _ hk => hk.2) (.bool false)) (fun _ hk => hk.2) (.int .i64 ((rd_T40 l0_1 x4_1).f3))) (fun _ hk => hk.2) (.int .i64 ((rd_T40 l0_1 x4_1).f4))) (fun _ h_ => h_.1))) hb); have n1_ := Aside0.mk (blk_below (g := gb145) (o := .cells #[.slice A0_0 l0_0.length c0_0, .slice (some ad146) l0_1.length c0_1, .slice A0_2 l0_2.length c0_2] 31 (0, 0)) (by (with_reducible repeat (first | refine blk_drewN ?_ _ | refine blk_drew ?_ | refine blk_alloc ?_ _)); refine blk_far ?_ NB145_147.out _; (with_reducible repeat (first | refine blk_drewN ?_ _ | refine blk_drew ?_ | refine blk_alloc ?_ _)); refine blk_far ?_ NB145_147.out _; (with_reducible repeat (first | refine blk_drewN ?_ _ | refine blk_drew ?_ | refine blk_alloc ?_ _)); refine blk_far ?_ NB145_147.out _; (with_reducible repeat (first | refine blk_drewN ?_ _ | refine blk_drew ?_ | refine blk_alloc ?_ _)); refine blk_far ?_ NB145_147.out _; (with_reducible repeat (first | refine blk_drewN ?_ _ | refine blk_drew ?_ | refine blk_alloc ?_ _)); refine blk_far ?_ NB145_147.out _; (with_reducible repeat (first | refine blk_drewN ?_ _ | refine blk_drew ?_ | refine blk_alloc ?_ _)); exact BK145.out) hb); have n2_ := Aside0.mk (blk_below (g := gb147) (o := .cells #[.int .i64 ((rd_T40 l0_1 x4_1).f0), .int .i64 ((rd_T40 l0_1 x4_1).f1), .bool false, .int .i64 ((rd_T40 l0_1 x4_1).f3), .int .i64 ((rd_T40 l0_1 x4_1).f4)] 40 (0, 0)) (by (with_reducible repeat (first | refine blk_drewN ?_ _ | refine blk_drew ?_ | refine blk_alloc ?_ _)); refine blk_put (cs := #[.int .i64 ((rd_T40 l0_1 x4_1).f0), .int .i64 ((rd_T40 l0_1 x4_1).f1), .bool false, .int .i64 ((rd_T40 l0_1 x4_1).f3), .int .i64 0]) ?_ 4 _ rfl; (with_reducible repeat (first | refine blk_drewN ?_ _ | refine blk_drew ?_ | refine blk_alloc ?_ _)); refine blk_put (cs := #[.int .i64 ((rd_T40 l0_1 x4_1).f0), .int .i64 ((rd_T40 l0_1 x4_1).f1), .bool false, .int .i64 0, .int .i64 0]) ?_ 3 _ rfl; (with_reducible repeat (first | refine blk_drewN ?_ _ | refine blk_drew ?_ | refine blk_alloc ?_ _)); refine blk_put (cs := #[.int .i64 ((rd_T40 l0_1 x4_1).f0), .int .i64 ((rd_T40 l0_1 x4_1).f1), .bool false, .int .i64 0, .int .i64 0]) ?_ 2 _ rfl; (with_reducible repeat (first | refine blk_drewN ?_ _ | refine blk_drew ?_ | refine blk_alloc ?_ _)); refine blk_put (cs := #[.int .i64 ((rd_T40 l0_1 x4_1).f0), .int .i64 0, .bool false, .int .i64 0, .int .i64 0]) ?_ 1 _ rfl; (with_reducible repeat (first | refine blk_drewN ?_ _ | refine blk_drew ?_ | refine blk_alloc ?_ _)); refine blk_put (cs := #[.int .i64 0, .int .i64 0, .bool false, .int .i64 0, .int .i64 0]) ?_ 0 _ rfl; (with_reducible repeat (first | refine blk_drewN ?_ _ | refine blk_drew ?_ | refine blk_alloc ?_ _)); exact BK147.out) hb); have n3_ := Aside0.mk (below_step tH hb); clear HO_3; clear BK145; clear BK147; clear HB; have HO_3 := n0_; have BK145 := n1_; have BK147 := n2_; have HB := n3_; clear n0_ n1_ n2_ n3_; (try clear hb); (try clear hb2); (try clear hk); (try clear hi); have hcz35_0 : w34.cell? ⟨gb147, 0, none⟩ = some (.int .i64 ((rd_T40 l0_1 x4_1).f0)) := (blk_cell BK147.out 0).trans rfl; have hcz35_1 : w34.cell? ⟨gb147, 1, none⟩ = some (.int .i64 ((rd_T40 l0_1 x4_1).f1)) := (blk_cell BK147.out 1).trans rfl; have hcz35_2 : w34.cell? ⟨gb147, 2, none⟩ = some (.bool false) := (blk_cell BK147.out 2).trans rfl; have hcz35_3 : w34.cell? ⟨gb147, 3, none⟩ = some (.int .i64 ((rd_T40 l0_1 x4_1).f3)) := (blk_cell BK147.out 3).trans rfl; have hcz35_4 : w34.cell? ⟨gb147, 4, none⟩ = some (.int .i64 ((rd_T40 l0_1 x4_1).f4)) := (blk_cell BK147.out 4).trans rfl; have hfz35_0 := blk_frozen BK147.out 0; have hfz35_1 := blk_frozen BK147.out 1; have hfz35_2 := blk_frozen BK147.out 2; have hfz35_3 := blk_frozen BK147.out 3; have hfz35_4 := blk_frozen BK147.out 4) | ((with_reducible refine gate_builtin (b := .append) (xs := #[.tmp 37, .tmp 39]) rfl ?_); at_builtin; refine Kd.R_append (Kd.int .i64) (w0 := w) w.heap.size rfl (.tmp 37) (.tmp 39) 23 3 (.int .i64 0) 8 rfl Try.underlying23 info3 rfl (by decide) (by omega) u3 x3_1 t148 [.int .i64 t148] (fun _ => True) (fun _ => False) rfl rfl ?aP (fun _ hk => hk.elim) ?aF ?aO ?aB ?aS ?aL ?_; (case aP => exact rfl); (case aB => exact tH); (case aF => exact (fun _ _ => trivial)); (case aO => exact (tRr HO_3)); (case aS => exact (below_size tH)); (case aL => have := LMc28.out; omega); intro v157 w36 ho hb hg hat; rw [← Ny156.out] at ho; have n0_ := Aside0.mk (blk_grown (g := gb145) tB hg (Kd.R_ne HO_3.out BK145.out (by decide))); have n1_ := Aside0.mk (blk_grown (g := gb147) tB hg (Kd.R_ne HO_3.out BK147.out (by decide))); have n2_ := Aside0.mk (hb); have n3_ := Aside0.mk (ho); clear BK145; clear BK147; clear HB; clear HO_3; have BK145 := n0_; have BK147 := n1_; have HB := n2_; have HO158 := n3_; clear n0_ n1_ n2_ n3_; clear ho hb hg hat))
         go_roundg k1
         case measure => have := HK1.out; omega
         case rel => exact ⟨(y156), (wrap64 (x4_1 + 1)), (by first | rfl | (simp; done) | (simp [*]; done)), H', ⟨by have := HK1.out; omega⟩, ⟨by (with_reducible repeat (first | apply Kd.R_alloc | apply Kd.R_drewN | apply Kd.R_drew)); exact HO158.out⟩, ⟨by (with_reducible repeat (first | refine blk_drewN ?_ _ | refine blk_drew ?_ | refine blk_alloc ?_ _)); exact BK145.out⟩, ⟨tH⟩⟩
        ·rw [if_neg c28] at H
         exact absurd H (by simp)
       ·replace c27 := Bool.eq_false_iff.mpr c27
        subst c27
        have H1 : (if x3_1.length < 17592186044416 then (eyewitnessref11_From.l0 k1 (x3_1 ++ [(-2)]) (wrap64 (x4_1 + 1)) l0_0 l0_1 l0_2) else (none)) = some r := by rw [if_neg (show ¬ (false = true) by decide)] at H; exact H
        clear H
        have H := H1
        clear H1
        by_cases c37 : x3_1.length < 17592186044416
        ·rw [if_pos c37] at H
         have LMc37 := Aside0.mk c37
         clear c37
         obtain ⟨y159, hy159⟩ : ∃ y_ : List Int, y_ = (x3_1 ++ [(-2)]) := ⟨_, rfl⟩
         replace H : (eyewitnessref11_From.l0 k1 y159 (wrap64 (x4_1 + 1)) l0_0 l0_1 l0_2) = some r := by first | (rw [hy159]; with_reducible exact H) | (have H2_ := (Option.bind_some _ _).symm.trans H; rw [hy159]; with_reducible exact H2_) | (have H2_ := (Option.bind_some _ _).symm.trans H; with_reducible exact H2_) | with_reducible exact H | (rw [hy159]; exact H) | exact H
         have Ny159 := Aside0.mk hy159
         clear hy159
         have H' := Aside0.mk H
         clear H
         have hcz38_0 : wr.cell? ⟨gb145, 0, none⟩ = some (.slice A0_0 l0_0.length c0_0) := (blk_cell BK145.out 0).trans rfl
         have hcz38_1 : wr.cell? ⟨gb145, 1, none⟩ = some (.slice A0_1 l0_1.length c0_1) := (blk_cell BK145.out 1).trans rfl
         have hcz38_2 : wr.cell? ⟨gb145, 2, none⟩ = some (.slice A0_2 l0_2.length c0_2) := (blk_cell BK145.out 2).trans rfl
         have hfz38_0 := blk_frozen BK145.out 0
         have hfz38_1 := blk_frozen BK145.out 1
         have hfz38_2 := blk_frozen BK145.out 2
         have p146 : 0 ≤ (x4_1 : Int) := of_decide_eq_true aS
         have q146 : x4_1 < (l0_1.length : Int) := of_decide_eq_true aS
         obtain ⟨ad146, e146, hx146_0, hx146_1, hx146_2, hx146_3, hx146_4⟩ := at_T40 HR0_1.out x4_1 p146 q146
         (try rw [← Nbq6.out] at hx146_2)
         cases e146
         replace hx146_0 := pw_cell_below HB.out hx146_0
         replace hx146_1 := pw_cell_below HB.out hx146_1
         replace hx146_2 := pw_cell_below HB.out hx146_2
         replace hx146_3 := pw_cell_below HB.out hx146_3
         replace hx146_4 := pw_cell_below HB.out hx146_4
         replace p146 := eq_true p146
         replace q146 := eq_true q146
         go_wp2_with (first | ((with_reducible refine gate_dst (N := 5) rfl ?_); refine box_event ?hg (N := 5) ?hd (cs := #[.int .i64 0, .int .i64 0, .bool false, .int .i64 0, .int .i64 0]) (t := 40) ?hr ?_; (case hd => rfl); (case hg => rfl); (case hr => first | (go_simp; done) | (go_simp; rfl)); intro gb147 hg w39 hbox hb; have n0_ := Aside0.mk (Kd.R_below (tRr HO_3) hb); have n1_ := Aside0.mk (blk_below (g := gb145) tB hb); have n2_ := Aside0.mk (below_step tH hb); have n3_ := Aside0.mk (hbox); have n4_ := Aside0.mk ((by rw [hg]; exact (below_size tH) : w.heap.size ≤ gb147)); have n5_ := Aside0.mk ((by rw [hg]; exact (below_size tH) : w.heap.size ≤ gb147)); have n6_ := Aside0.mk ((by rw [hg]; exact Nat.ne_of_lt (blk_lt (g := gb145) tB) : gb145 ≠ gb147)); have n7_ := Aside0.mk ((by rw [hg]; exact Nat.ne_of_gt (blk_lt (g := gb145) tB) : gb147 ≠ gb145)); clear HO_3; clear BK145; clear HB; have HO_3 := n0_; have BK145 := n1_; have HB := n2_; have BK147 := n3_; have GW147 := n4_; have GE147 := n5_; have NB145_147 := n6_; have NB147_145 := n7_; clear n0_ n1_ n2_ n3_ n4_ n5_ n6_ n7_; clear hb hbox hg; have hnb40 := NB147_145.out; have hnc40 := NB145_147.out; have hcz41_0 : w39.cell? ⟨gb147, 0, none⟩ = some (.int .i64 0) := (blk_cell BK147.out 0).trans rfl; have hcz41_1 : w39.cell? ⟨gb147, 1, none⟩ = some (.int .i64 0) := (blk_cell BK147.out 1).trans rfl; have hcz41_2 : w39.cell? ⟨gb147, 2, none⟩ = some (.bool false) := (blk_cell BK147.out 2).trans rfl; have hcz41_3 : w39.cell? ⟨gb147, 3, none⟩ = some (.int .i64 0) := (blk_cell BK147.out 3).trans rfl; have hcz41_4 : w39.cell? ⟨gb147, 4, none⟩ = some (.int .i64 0) := (blk_cell BK147.out 4).trans rfl; have hfz41_0 := blk_frozen BK147.out 0; have hfz41_1 := blk_frozen BK147.out 1; have hfz41_2 := blk_frozen BK147.out 2; have hfz41_3 := blk_frozen BK147.out 3; have hfz41_4 := blk_frozen BK147.out 4; have hcz42_0 : w39.cell? ⟨gb145, 0, none⟩ = some (.slice A0_0 l0_0.length c0_0) := (blk_cell BK145.out 0).trans rfl; have hcz42_1 : w39.cell? ⟨gb145, 1, none⟩ = some (.slice (some ad146) l0_1.length c0_1) := (blk_cell BK145.out 1).trans rfl; have hcz42_2 : w39.cell? ⟨gb145, 2, none⟩ = some (.slice A0_2 l0_2.length c0_2) := (blk_cell BK145.out 2).trans rfl; have hfz42_0 := blk_frozen BK145.out 0; have hfz42_1 := blk_frozen BK145.out 1; have hfz42_2 := blk_frozen BK145.out 2) | ((with_reducible refine gate_callee (f := 24) rfl ?_); refine goesL_ (some 27) rfl rfl Try.func24 (by kernel_rfl) rfl #[.agg #[.slice A0_0 l0_0.length c0_0, .slice (some ad146) l0_1.length c0_1, .slice A0_2 l0_2.length c0_2], .int .i64 ((rd_T40 l0_1 x4_1).f3), .int .i64 ((rd_T40 l0_1 x4_1).f4)] rfl (by (try simp only [List.map_toArray, List.map_cons, List.map_nil]); first | done | rfl | (simp only [List.length_drop, List.length_take]; rfl)) ?_; (with_reducible refine (eyewitnessref10_Write.calls k1 _ _ l0_0 _ _ l0_1 _ _ l0_2 ((rd_T40 l0_1 x4_1).f3) ((rd_T40 l0_1 x4_1).f4) t148 false _ ?side1 ?side2 ?side3 ?side4 ?side5 ?side6 A5.out).mono ?_); (case side1 => exact Kd.C_below HR0_0.out tH); (case side2 => exact HC0_0.out); (case side3 => exact Kd.C_below HR0_1.out tH); (case side4 => exact HC0_1.out); (case side5 => exact Kd.C_below HR0_2.out tH); (case side6 => exact HC0_2.out); rintro e w43 ⟨rfl, hb⟩; refine ⟨_, rfl, ?_⟩; have n0_ := Aside0.mk (Kd.R_below (by (with_reducible repeat (first | apply Kd.R_alloc | apply Kd.R_drewN | apply Kd.R_drew)); exact (Kd.R_mono (Kd.R_far (p := ⟨gb147, 4, none⟩) (Kd.R_far (p := ⟨gb147, 3, none⟩) (Kd.R_far (p := ⟨gb147, 2, none⟩) (Kd.R_far (p := ⟨gb147, 1, none⟩) (Kd.R_far (p := ⟨gb147, 0, none⟩) (Kd.R_types HO_3.out BK147.out (by decide)) (fun _ hk => hk.2) (.int .i64 ((rd_T40 l0_1 x4_1).f0))) (fun _ hk => hk.2) (.int .i64 ((rd_T40 l0_1 x4_1).f1))) (fun _ hk => hk.2) (.bool false)) (fun _ hk => hk.2) (.int .i64 ((rd_T40 l0_1 x4_1).f3))) (fun _ hk => hk.2) (.int .i64 ((rd_T40 l0_1 x4_1).f4))) (fun _ h_ => h_.1))) hb); have n1_ := Aside0.mk (blk_below (g := gb145) (o := .cells #[.slice A0_0 l0_0.length c0_0, .slice (some ad146) l0_1.length c0_1, .slice A0_2 l0_2.length c0_2] 31 (0, 0)) (by (with_reducible repeat (first | refine blk_drewN ?_ _ | refine blk_drew ?_ | refine blk_alloc ?_ _)); refine blk_far ?_ NB145_147.out _; (with_reducible repeat (first | refine blk_drewN ?_ _ | refine blk_drew ?_ | refine blk_alloc ?_ _)); refine blk_far ?_ NB145_147.out _; (with_reducible repeat (first | refine blk_drewN ?_ _ | refine blk_drew ?_ | refine blk_alloc ?_ _)); refine blk_far ?_ NB145_147.out _; (with_reducible repeat (first | refine blk_drewN ?_ _ | refine blk_drew ?_ | refine blk_alloc ?_ _)); refine blk_far ?_ NB145_147.out _; (with_reducible repeat (first | refine blk_drewN ?_ _ | refine blk_drew ?_ | refine blk_alloc ?_ _)); refine blk_far ?_ NB145_147.out _; (with_reducible repeat (first | refine blk_drewN ?_ _ | refine blk_drew ?_ | refine blk_alloc ?_ _)); exact BK145.out) hb); have n2_ := Aside0.mk (blk_below (g := gb147) (o := .cells #[.int .i64 ((rd_T40 l0_1 x4_1).f0), .int .i64 ((rd_T40 l0_1 x4_1).f1), .bool false, .int .i64 ((rd_T40 l0_1 x4_1).f3), .int .i64 ((rd_T40 l0_1 x4_1).f4)] 40 (0, 0)) (by (with_reducible repeat (first | refine blk_drewN ?_ _ | refine blk_drew ?_ | refine blk_alloc ?_ _)); refine blk_put (cs := #[.int .i64 ((rd_T40 l0_1 x4_1).f0), .int .i64 ((rd_T40 l0_1 x4_1).f1), .bool false, .int .i64 ((rd_T40 l0_1 x4_1).f3), .int .i64 0]) ?_ 4 _ rfl; (with_reducible repeat (first | refine blk_drewN ?_ _ | refine blk_drew ?_ | refine blk_alloc ?_ _)); refine blk_put (cs := #[.int .i64 ((rd_T40 l0_1 x4_1).f0), .int .i64 ((rd_T40 l0_1 x4_1).f1), .bool false, .int .i64 0, .int .i64 0]) ?_ 3 _ rfl; (with_reducible repeat (first | refine blk_drewN ?_ _ | refine blk_drew ?_ | refine blk_alloc ?_ _)); refine blk_put (cs := #[.int .i64 ((rd_T40 l0_1 x4_1).f0), .int .i64 ((rd_T40 l0_1 x4_1).f1), .bool false, .int .i64 0, .int .i64 0]) ?_ 2 _ rfl; (with_reducible repeat (first | refine blk_drewN ?_ _ | refine blk_drew ?_ | refine blk_alloc ?_ _)); refine blk_put (cs := #[.int .i64 ((rd_T40 l0_1 x4_1).f0), .int .i64 0, .bool false, .int .i64 0, .int .i64 0]) ?_ 1 _ rfl; (with_reducible repeat (first | refine blk_drewN ?_ _ | refine blk_drew ?_ | refine blk_alloc ?_ _)); refine blk_put (cs := #[.int .i64 0, .int .i64 0, .bool false, .int .i64 0, .int .i64 0]) ?_ 0 _ rfl; (with_reducible repeat (first | refine blk_drewN ?_ _ | refine blk_drew ?_ | refine blk_alloc ?_ _)); exact BK147.out) hb); have n3_ := Aside0.mk (below_step tH hb); clear HO_3; clear BK145; clear BK147; clear HB; have HO_3 := n0_; have BK145 := n1_; have BK147 := n2_; have HB := n3_; clear n0_ n1_ n2_ n3_; (try clear hb); (try clear hb2); (try clear hk); (try clear hi); have hcz44_0 : w43.cell? ⟨gb147, 0, none⟩ = some (.int .i64 ((rd_T40 l0_1 x4_1).f0)) := (blk_cell BK147.out 0).trans rfl; have hcz44_1 : w43.cell? ⟨gb147, 1, none⟩ = some (.int .i64 ((rd_T40 l0_1 x4_1).f1)) := (blk_cell BK147.out 1).trans rfl; have hcz44_2 : w43.cell? ⟨gb147, 2, none⟩ = some (.bool false) := (blk_cell BK147.out 2).trans rfl; have hcz44_3 : w43.cell? ⟨gb147, 3, none⟩ = some (.int .i64 ((rd_T40 l0_1 x4_1).f3)) := (blk_cell BK147.out 3).trans rfl; have hcz44_4 : w43.cell? ⟨gb147, 4, none⟩ = some (.int .i64 ((rd_T40 l0_1 x4_1).f4)) := (blk_cell BK147.out 4).trans rfl; have hfz44_0 := blk_frozen BK147.out 0; have hfz44_1 := blk_frozen BK147.out 1; have hfz44_2 := blk_frozen BK147.out 2; have hfz44_3 := blk_frozen BK147.out 3; have hfz44_4 := blk_frozen BK147.out 4) | ((with_reducible refine gate_builtin (b := .append) (xs := #[.tmp 37, .tmp 39]) rfl ?_); at_builtin; refine Kd.R_append (Kd.int .i64) (w0 := w) w.heap.size rfl (.tmp 37) (.tmp 39) 23 3 (.int .i64 0) 8 rfl Try.underlying23 info3 rfl (by decide) (by omega) u3 x3_1 (-2) [.int .i64 (-2)] (fun _ => True) (fun _ => False) rfl rfl ?aP (fun _ hk => hk.elim) ?aF ?aO ?aB ?aS ?aL ?_; (case aP => exact rfl); (case aB => exact tH); (case aF => exact (fun _ _ => trivial)); (case aO => exact (tRr HO_3)); (case aS => exact (below_size tH)); (case aL => have := LMc37.out; omega); intro v160 w45 ho hb hg hat; rw [← Ny159.out] at ho; have n0_ := Aside0.mk (blk_grown (g := gb145) tB hg (Kd.R_ne HO_3.out BK145.out (by decide))); have n1_ := Aside0.mk (blk_grown (g := gb147) tB hg (Kd.R_ne HO_3.out BK147.out (by decide))); have n2_ := Aside0.mk (hb); have n3_ := Aside0.mk (ho); clear BK145; clear BK147; clear HB; clear HO_3; have BK145 := n0_; have BK147 := n1_; have HB := n2_; have HO161 := n3_; clear n0_ n1_ n2_ n3_; clear ho hb hg hat))
         go_roundg k1
         case measure => have := HK1.out; omega
         case rel => exact ⟨(y159), (wrap64 (x4_1 + 1)), (by first | rfl | (simp; done) | (simp [*]; done)), H', ⟨by have := HK1.out; omega⟩, ⟨by (with_reducible repeat (first | apply Kd.R_alloc | apply Kd.R_drewN | apply Kd.R_drew)); exact HO161.out⟩, ⟨by (with_reducible repeat (first | refine blk_drewN ?_ _ | refine blk_drew ?_ | refine blk_alloc ?_ _)); exact BK145.out⟩, ⟨tH⟩⟩
        ·rw [if_neg c37] at H
         exact absurd H (by simp)
    ·rw [if_neg c4] at H
     exact absurd H (by simp)
   ·rw [if_neg c3] at H
    have c3b0 : decide (x4_1 < (l0_1.length : Int)) = false := decide_eq_false c3
    clear c3
    obtain rfl := Option.some.inj H
    have hcz46_0 : wr.cell? ⟨gb145, 0, none⟩ = some (.slice A0_0 l0_0.length c0_0) := (blk_cell BK145.out 0).trans rfl
    have hcz46_1 : wr.cell? ⟨gb145, 1, none⟩ = some (.slice A0_1 l0_1.length c0_1) := (blk_cell BK145.out 1).trans rfl
    have hcz46_2 : wr.cell? ⟨gb145, 2, none⟩ = some (.slice A0_2 l0_2.length c0_2) := (blk_cell BK145.out 2).trans rfl
    have hfz46_0 := blk_frozen BK145.out 0
    have hfz46_1 := blk_frozen BK145.out 1
    have hfz46_2 := blk_frozen BK145.out 2
    go_wp2
    go_ret
    exact ⟨_, by first | rfl | (simp [errW_none, errW_some] <;> rfl) | (simp [*, errW_none, errW_some] <;> rfl), by (with_reducible repeat (first | apply Kd.R_alloc | apply Kd.R_drewN | apply Kd.R_drew)); exact HO_3.out, tH⟩

end Go.Proofs.Ytcnjnollmamifaa.P
