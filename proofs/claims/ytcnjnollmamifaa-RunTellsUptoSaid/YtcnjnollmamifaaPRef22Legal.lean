-- written by a program (wip/tools/pr.py: the kit's print over this seat)
import Derived.Test.YtcnjnollmamifaaPKinds
import Derived.Test.YtcnjnollmamifaaPRef22Item
import Derived.Test.YtcnjnollmamifaaPRef22Has
import Derived.Test.YtcnjnollmamifaaPRef22Wrong
namespace Go.Proofs.Ytcnjnollmamifaa.P
open Go.RowKit Go.Proofs.YtcnjnollmamifaaW.PrintWords Go.Proofs.YtcnjnollmamifaaW.PrintLast Go.Proofs.YtcnjnollmamifaaW.PrintMore
attribute [local go_sem] max2_int min2_int max_two min_two max_three min_three max_four min_four   -- for this text's walks alone
set_option linter.unusedVariables false
set_option linter.unusedSimpArgs false

/-! ### eyewitnessref22_Legal: function 12 -/
mutual
def eyewitnessref22_Legal.l0 : Nat → List Int → List Int → Int → List ByteArray → List (S40) → List Int → Option (Bool)
 | 0, _, _, _, _, _, _ => none
 | k + 1, x1, x2, x7, x250000, x250001, x250002 => if x7 < (x1.length : Int) then (if 0 ≤ x7 then ((eyewitnessref22_item.f x250000 x250001 x250002 (rd x1 x7)).bind fun t251 => (if t251 = true then (if x7 ≤ (x1.length : Int) then ((eyewitnessref22_has.f k (x1.take (x7 : Int).toNat) (rd x1 x7)).bind fun t254 => (if t254 = true then (some false) else (eyewitnessref22_Legal.l0 k x1 x2 (wrap64 (x7 + 1)) x250000 x250001 x250002))) else (none)) else (some false))) else (none)) else (eyewitnessref22_Legal.l1 k x1 x2 0 x250000 x250001 x250002)
def eyewitnessref22_Legal.l1 : Nat → List Int → List Int → Int → List ByteArray → List (S40) → List Int → Option (Bool)
 | 0, _, _, _, _, _, _ => none
 | k + 1, x1, x2, x8, x250000, x250001, x250002 => if x8 < (x2.length : Int) then (if 0 ≤ x8 then ((eyewitnessref22_has.f k x1 (rd x2 x8)).bind fun t256 => (if t256 = true then (eyewitnessref22_Legal.l1 k x1 x2 (wrap64 (x8 + 1)) x250000 x250001 x250002) else (some false))) else (none)) else ((eyewitnessref22_Wrong.f k x250000 x250001 x250002 x1 x2).bind fun bt257 => (some (!bt257.2)))
end
def eyewitnessref22_Legal.f (k : Nat) (l0_0 : List ByteArray) (l0_1 : List (S40)) (l0_2 : List Int) (l1 : List Int) (l2 : List Int) : Option (Bool) := eyewitnessref22_Legal.l0 k l1 l2 0 l0_0 l0_1 l0_2
theorem eyewitnessref22_Legal.mono_l : ∀ k, (∀ y0 y1 y2 y3 y4 y5, LeO (eyewitnessref22_Legal.l0 k y0 y1 y2 y3 y4 y5) (eyewitnessref22_Legal.l0 (k + 1) y0 y1 y2 y3 y4 y5)) ∧ (∀ y0 y1 y2 y3 y4 y5, LeO (eyewitnessref22_Legal.l1 k y0 y1 y2 y3 y4 y5) (eyewitnessref22_Legal.l1 (k + 1) y0 y1 y2 y3 y4 y5))
 | 0 => ⟨fun _ _ _ _ _ _ r h => by simp [eyewitnessref22_Legal.l0] at h, fun _ _ _ _ _ _ r h => by simp [eyewitnessref22_Legal.l1] at h⟩
 | k + 1 => by
  obtain ⟨ih0, ih1⟩ := eyewitnessref22_Legal.mono_l k
  refine ⟨?_, ?_⟩
  ·intro y0 y1 y2 y3 y4 y5
   unfold eyewitnessref22_Legal.l0
   repeat' first
   | (with_reducible exact ih0 _ _ _ _ _ _)
   | (with_reducible exact ih1 _ _ _ _ _ _)
   | (with_reducible exact eyewitnessref22_Wrong.mono _ _ _ _ _ _)
   | (with_reducible exact eyewitnessref22_has.mono _ _ _)
   | (with_reducible exact LeO.refl _)
   | (with_reducible exact LeO.none _)
   | (with_reducible refine LeO.ite ?_ ?_)
   | (with_reducible refine LeO.bind ?_ (fun _ => ?_))
   | exact ih0 _ _ _ _ _ _
   | exact ih1 _ _ _ _ _ _
   | exact eyewitnessref22_Wrong.mono _ _ _ _ _ _
   | exact eyewitnessref22_has.mono _ _ _
   | exact LeO.none _
   | refine LeO.ite ?_ ?_
   | refine LeO.bind ?_ (fun _ => ?_)
  ·intro y0 y1 y2 y3 y4 y5
   unfold eyewitnessref22_Legal.l1
   repeat' first
   | (with_reducible exact ih0 _ _ _ _ _ _)
   | (with_reducible exact ih1 _ _ _ _ _ _)
   | (with_reducible exact eyewitnessref22_Wrong.mono _ _ _ _ _ _)
   | (with_reducible exact eyewitnessref22_has.mono _ _ _)
   | (with_reducible exact LeO.refl _)
   | (with_reducible exact LeO.none _)
   | (with_reducible refine LeO.ite ?_ ?_)
   | (with_reducible refine LeO.bind ?_ (fun _ => ?_))
   | exact ih0 _ _ _ _ _ _
   | exact ih1 _ _ _ _ _ _
   | exact eyewitnessref22_Wrong.mono _ _ _ _ _ _
   | exact eyewitnessref22_has.mono _ _ _
   | exact LeO.none _
   | refine LeO.ite ?_ ?_
   | refine LeO.bind ?_ (fun _ => ?_)
theorem eyewitnessref22_Legal.mono : ∀ a0 a1 a2 a3 a4 k, LeO (eyewitnessref22_Legal.f k a0 a1 a2 a3 a4) (eyewitnessref22_Legal.f (k + 1) a0 a1 a2 a3 a4) := by
 intro a0 a1 a2 a3 a4 k
 obtain ⟨ih0, ih1⟩ := eyewitnessref22_Legal.mono_l k
 unfold eyewitnessref22_Legal.f
 repeat' first
   | (with_reducible exact ih0 _ _ _ _ _ _)
   | (with_reducible exact ih1 _ _ _ _ _ _)
   | (with_reducible exact eyewitnessref22_Wrong.mono _ _ _ _ _ _)
   | (with_reducible exact eyewitnessref22_has.mono _ _ _)
   | (with_reducible exact LeO.refl _)
   | (with_reducible exact LeO.none _)
   | (with_reducible refine LeO.ite ?_ ?_)
   | (with_reducible refine LeO.bind ?_ (fun _ => ?_))
   | exact ih0 _ _ _ _ _ _
   | exact ih1 _ _ _ _ _ _
   | exact eyewitnessref22_Wrong.mono _ _ _ _ _ _
   | exact eyewitnessref22_has.mono _ _ _
   | exact LeO.none _
   | refine LeO.ite ?_ ?_
   | refine LeO.bind ?_ (fun _ => ?_)
def eyewitnessref22_Legal.T4 : Bool × List (List Nat × List Nat) := (true, [([], []), ([], []), ([], []), ([1, 2], [1, 2]), ([3], [3]), ([0, 4], [0, 4]), ([5], [5]), ([6, 5], [6]), ([7], [7]), ([7], [7]), ([8, 9, 7], [7, 8, 9]), ([7], [7]), ([7], [7]), ([11, 12, 7], [7, 11, 12]), ([13, 7], [7, 13]), ([10, 14, 7, 7], [7, 10, 14]), ([7, 15], [7, 15])])
def eyewitnessref22_Legal.B4 : List Nat := [0, 0, 0, 6, 14, 31, 63, 127, 255, 255, 1023, 255, 255, 6399, 14591, 32767, 65535]
theorem eyewitnessref22_Legal.tab4 : rtab .any (opsOf Try.f12 4) = eyewitnessref22_Legal.T4 := by kernel_rfl
theorem eyewitnessref22_Legal.bits4 : waitsOk eyewitnessref22_Legal.T4.2 eyewitnessref22_Legal.B4 = true := by kernel_rfl
set_option maxHeartbeats 8000000 in
set_option maxRecDepth 100000 in
theorem eyewitnessref22_Legal.calls (k : Nat) (A0_0 : Option Addr) (c0_0 : Nat) (l0_0 : List ByteArray) (A0_1 : Option Addr) (c0_1 : Nat) (l0_1 : List (S40)) (A0_2 : Option Addr) (c0_2 : Nat) (l0_2 : List Int) (A1 : Option Addr) (c1 : Nat) (l1 : List Int) (A2 : Option Addr) (c2 : Nat) (l2 : List Int) (r : Bool) (w : World) (hr0_0 : Kd.C Kd.string w A0_0 l0_0.length l0_0) (hc0_0 : l0_0.length ≤ c0_0) (hr0_1 : Kd.C k40 w A0_1 l0_1.length l0_1) (hc0_1 : l0_1.length ≤ c0_1) (hr0_2 : Kd.C (Kd.int .i64) w A0_2 l0_2.length l0_2) (hc0_2 : l0_2.length ≤ c0_2) (hr1 : Kd.C (Kd.int .i64) w A1 l1.length l1) (hc1 : l1.length ≤ c1) (hr2 : Kd.C (Kd.int .i64) w A2 l2.length l2) (hc2 : l2.length ≤ c2) (h : eyewitnessref22_Legal.f k l0_0 l0_1 l0_2 l1 l2 = some r) :
  Calls Try.prog 12 #[.agg #[.slice A0_0 l0_0.length c0_0, .slice A0_1 l0_1.length c0_1, .slice A0_2 l0_2.length c0_2], .slice A1 l1.length c1, .slice A2 l2.length c2] w fun e w' => e = .returned (.bool r) ∧ Below w.heap.size w w' := by
 have hu31 := Try.underlying31
 have HR0_0 := Aside0.mk hr0_0
 have HC0_0 := Aside0.mk hc0_0
 clear hr0_0 hc0_0
 have HR0_1 := Aside0.mk hr0_1
 have HC0_1 := Aside0.mk hc0_1
 clear hr0_1 hc0_1
 have HR0_2 := Aside0.mk hr0_2
 have HC0_2 := Aside0.mk hc0_2
 clear hr0_2 hc0_2
 have HR1 := Aside0.mk hr1
 have HC1 := Aside0.mk hc1
 clear hr1 hc1
 have HR2 := Aside0.mk hr2
 have HC2 := Aside0.mk hc2
 clear hr2 hc2
 have HB := Aside0.mk (Below.refl w.heap.size w)
 have H : (eyewitnessref22_Legal.l0 k l1 l2 0 l0_0 l0_1 l0_2) = some r := h
 clear h
 have H' := Aside0.mk H
 clear H
 go_enter Try.func12, Try.ntmps12
 go_wp2_with (first | ((with_reducible refine gate_dst (N := 3) rfl ?_); refine box_event ?hg (N := 3) ?hd (cs := #[.slice A0_0 l0_0.length c0_0, .slice A0_1 l0_1.length c0_1, .slice A0_2 l0_2.length c0_2]) (t := 31) ?hr ?_; (case hd => rfl); (case hg => rfl); (case hr => first | (go_simp; done) | (go_simp; rfl)); intro gb249 hg w4 hbox hb; have n0_ := Aside0.mk (below_step tH hb); have n1_ := Aside0.mk (hbox); have n2_ := Aside0.mk ((by rw [hg]; exact (below_size tH) : w.heap.size ≤ gb249)); have n3_ := Aside0.mk ((by rw [hg]; exact (below_size tH) : w.heap.size ≤ gb249)); clear HB; have HB := n0_; have BK249 := n1_; have GW249 := n2_; have GE249 := n3_; clear n0_ n1_ n2_ n3_; clear hb hbox hg))
 go_loopg [7] k (fun kq v7 w' => ∃ (x7_1 : Int), v7 = .int .i64 x7_1 ∧ Aside0 (eyewitnessref22_Legal.l0 kq l1 l2 x7_1 l0_0 l0_1 l0_2 = some r) ∧ Aside0 (kq ≤ k) ∧ Aside0 (w'.heap[gb249]? = some (.cells #[(.slice A0_0 l0_0.length c0_0), (.slice A0_1 l0_1.length c0_1), (.slice A0_2 l0_2.length c0_2)] 31 (0, 0))) ∧ Aside0 (Below w.heap.size w w'))
 case atStart => exact ⟨(0), (by first | rfl | (simp; done) | (simp [*]; done)), H', ⟨Nat.le_refl _⟩, ⟨by (with_reducible repeat (first | refine blk_drewN ?_ _ | refine blk_drew ?_ | refine blk_alloc ?_ _)); exact BK249.out⟩, ⟨tH⟩⟩
 case round =>
  clear H'
  try clear c1
  try clear c2
  try clear p2
  obtain ⟨x7_1, rfl, HA, HK1, BK249, HB⟩ := hrel
  cases gk with
  | zero => exact absurd HA.out (by simp [eyewitnessref22_Legal.l0])
  | succ k1 =>
   have H := HA.out
   clear HA
   simp only [eyewitnessref22_Legal.l0] at H
   by_cases c5 : x7_1 < (l1.length : Int)
   ·rw [if_pos c5] at H
    have c5b0 : decide (x7_1 < (l1.length : Int)) = true := decide_eq_true c5
    clear c5
    by_cases c6 : 0 ≤ x7_1
    ·rw [if_pos c6] at H
     have c6b0 : decide (0 ≤ x7_1) = true := decide_eq_true c6
     clear c6
     replace H := Option.bind_eq_some_iff.mp H
     obtain ⟨t251, A70, H⟩ := H
     replace H : (if t251 = true then (if x7_1 ≤ (l1.length : Int) then ((eyewitnessref22_has.f k1 (l1.take (x7_1 : Int).toNat) (rd l1 x7_1)).bind fun t254 => (if t254 = true then (some false) else (eyewitnessref22_Legal.l0 k1 l1 l2 (wrap64 (x7_1 + 1)) l0_0 l0_1 l0_2))) else (none)) else (some false)) = some r := H
     have A7 := Aside0.mk A70
     clear A70
     by_cases c8 : t251 = true
     ·subst c8
      have H1 : (if x7_1 ≤ (l1.length : Int) then ((eyewitnessref22_has.f k1 (l1.take (x7_1 : Int).toNat) (rd l1 x7_1)).bind fun t254 => (if t254 = true then (some false) else (eyewitnessref22_Legal.l0 k1 l1 l2 (wrap64 (x7_1 + 1)) l0_0 l0_1 l0_2))) else (none)) = some r := by rw [if_pos rfl] at H; exact H
      clear H
      have H := H1
      clear H1
      have c9b0 := eq_true (of_decide_eq_true aS : 0 ≤ x7_1)
      by_cases c10 : x7_1 ≤ (l1.length : Int)
      ·rw [if_pos c10] at H
       have c10b0 := eq_true c10
       have c10b1 : decide (x7_1 ≤ (l1.length : Int)) = true := decide_eq_true c10
       clear c10
       replace H := Option.bind_eq_some_iff.mp H
       obtain ⟨t254, A110, H⟩ := H
       replace H : (if t254 = true then (some false) else (eyewitnessref22_Legal.l0 k1 l1 l2 (wrap64 (x7_1 + 1)) l0_0 l0_1 l0_2)) = some r := H
       have A11 := Aside0.mk A110
       clear A110
       by_cases c12 : t254 = true
       ·subst c12
        have H1 : (some false) = some r := by rw [if_pos rfl] at H; exact H
        clear H
        have H := H1
        clear H1
        obtain rfl := Option.some.inj H
        try go_wp2
        have n0_ := Aside0.mk (blk_drew BK249.out)
        have n1_ := Aside0.mk (below_drew1 HB.out)
        clear BK249
        clear HB
        have BK249 := n0_
        have HB := n1_
        clear n0_ n1_
        have p250 : 0 ≤ (x7_1 : Int) := of_decide_eq_true aS
        have q250 : x7_1 < (l1.length : Int) := of_decide_eq_true aS
        obtain ⟨ad250, e250, hx250_0⟩ := Kd.at_int HR1.out x7_1 p250 q250
        have hw250_0 := hx250_0
        cases e250
        replace hx250_0 := pw_cell_below HB.out hx250_0
        replace p250 := eq_true p250
        replace q250 := eq_true q250
        have p253 : 0 ≤ (x7_1 : Int) := of_decide_eq_true aS
        have q253 : x7_1 < (l1.length : Int) := of_decide_eq_true aS
        obtain ⟨ad253, e253, hx253_0⟩ := Kd.at_int HR1.out x7_1 p253 q253
        have hw253_0 := hx253_0
        obtain rfl : ad250 = ad253 := (by injection e253)
        replace hx253_0 := pw_cell_below HB.out hx253_0
        replace p253 := eq_true p253
        replace q253 := eq_true q253
        refine start_ (n := 17) (S := fun w' => w'.cell? ⟨gb249, 0, none⟩ = some (.slice A0_0 l0_0.length c0_0) ∧ w'.cell? ⟨gb249, 1, none⟩ = some (.slice A0_1 l0_1.length c0_1) ∧ w'.cell? ⟨gb249, 2, none⟩ = some (.slice A0_2 l0_2.length c0_2) ∧ w'.cell? (ad250.add (x7_1).toNat) = some (.int .i64 (rd l1 x7_1)) ∧ w'.cell? (ad250.add (x7_1).toNat) = some (.int .i64 (rd l1 x7_1))) (ds := []) (bl 17 0) (by kernel_rfl) rfl rfl ⟨(blk_cell BK249.out 0).trans rfl, (blk_cell BK249.out 1).trans rfl, (blk_cell BK249.out 2).trans rfl, (pw_cell_below HB.out hw250_0), (pw_cell_below HB.out hw253_0)⟩ (fun hHeld => ?_); refine with_tabW eyewitnessref22_Legal.tab4 eyewitnessref22_Legal.bits4 (fun HT_ HW_ => ?_)
        generalize wr.drew = w13 at BK249 HB hx250_0 hx253_0 hHeld ⊢
        refine pX 1 18 (bl 17 2) HT_ rfl rfl kA (fun _ _ _ h => h) yA hA ?_
        refine pX 2 19 (bl 17 6) HT_ rfl rfl kA (fun _ _ _ h => h) yA hA ?_
        refine pX 3 20 (bl 17 14) HT_ rfl rfl kA (fun _ _ _ h => h) yA hA ?_
        refine pT 0 17 (bl 17 15) HT_ HW_ rfl rfl kA (fun _ _ _ h => h) yS hHeld hA ?_
        refine pT 4 21 (bl 17 31) HT_ HW_ rfl rfl kA (fun _ _ _ h => h) yS hHeld hA ?_
        refine one_ (i := 5) (N := some 22) (bl 17 63) rfl rfl (one_of HT_.out (by kernel_rfl)) (by decide) (fun K hK => ?_)
        refine goes_ Try.func19 (by kernel_rfl) rfl #[.agg #[.slice A0_0 l0_0.length c0_0, .slice A0_1 l0_1.length c0_1, .slice A0_2 l0_2.length c0_2], .int .i64 (rd l1 x7_1)] (by rfl) rfl rfl (by (try simp only [List.map_toArray, List.map_cons, List.map_nil]); first | done | rfl | (simp only [List.length_drop, List.length_take]; rfl)) ?_
        with_reducible refine (eyewitnessref22_item.calls _ _ l0_0 _ _ l0_1 _ _ l0_2 (rd l1 x7_1) true _ ?side1 ?side2 ?side3 ?side4 ?side5 ?side6 A7.out).mono ?_
        (case side1 => exact tC HR0_0)
        (case side2 => exact HC0_0.out)
        (case side3 => exact tC HR0_1)
        (case side4 => exact HC0_1.out)
        (case side5 => exact tC HR0_2)
        (case side6 => exact HC0_2.out)
        rintro e w14 ⟨rfl, hb⟩
        refine ⟨_, rfl, ?_⟩
        have n0_ := Aside0.mk (blk_below (g := gb249) tB hb)
        have n1_ := Aside0.mk (below_step tH hb)
        clear BK249
        clear HB
        have BK249 := n0_
        have HB := n1_
        clear n0_ n1_
        (try clear hb)
        (try clear hb2)
        (try clear hk)
        (try clear hi)
        obtain ⟨i015, hi015, _, hsz15, _⟩ := info_parts info3
        obtain ⟨hcut15, hA15, hC15⟩ := print_take_of (P := Try.prog) (Value.int .i64) 0 23 3 .i64 Try.underlying23 hi015 hsz15 (some ad250) c1 l1 x7_1 (of_decide_eq_true aS) (of_decide_eq_true aS) HC1.out
        have HR252 := Aside0.mk (Kd.C_of_reads (h1 := fun _ => rfl) (hA15 _ (Kd.reads_of_C HR1.out)))
        have HC252 := Aside0.mk hC15
        clear hA15 hC15 hi015 hsz15
        refine hK.out _ _ ⟨(blk_cell BK249.out 0).trans rfl, (blk_cell BK249.out 1).trans rfl, (blk_cell BK249.out 2).trans rfl, (pw_cell_below HB.out hw250_0), (pw_cell_below HB.out hw253_0)⟩ (fun hHeld => ?_)
        clear hK K
        refine norm_ (a' := ?_) ?_ ?_
        rotate_left
        ·show Act.put _ (some 22) _ = _
         simp only [Act.put, List.setIfInBounds_toArray, List.set_cons_zero, List.set_cons_succ, i64_w, i32_w]
         rfl
        refine pX 6 23 (bl 17 127) HT_ rfl rfl kA (fun _ _ _ h => h) yA hA ?_
        refine pX 7 24 (bl 17 255) HT_ rfl rfl kA (fun _ _ _ h => h) yA hA ?_
        refine pX 8 25 (bl 17 511) HT_ rfl rfl kA (fun _ _ _ h => h) yA hA ?_
        refine pX 9 26 (bl 17 1023) HT_ rfl rfl kA (fun _ _ _ h => h) yA hA ?_
        refine pX 10 27 (bl 17 2047) HT_ rfl rfl kA (fun _ _ _ h => h) yA hA ?_
        refine pX 11 28 (bl 17 4095) HT_ rfl rfl kA (fun _ _ _ h => h) yA hA ?_
        refine pX 12 29 (bl 17 8191) HT_ rfl rfl kA (fun _ _ _ h => h) yA hA ?_
        refine pX 13 30 (bl 17 16383) HT_ rfl rfl kA (fun _ _ _ h => h) yA hA ?_
        refine pT 14 31 (bl 17 32767) HT_ HW_ rfl rfl kA (fun _ _ _ h => h) yS hHeld hA ?_
        refine one_ (i := 15) (N := some 32) (bl 17 65535) rfl rfl (one_of HT_.out (by kernel_rfl)) (by decide) (fun K hK => ?_)
        refine goes_ Try.func20 (by kernel_rfl) rfl #[.slice (some ad250) (l1.take (x7_1 : Int).toNat).length c1, .int .i64 (rd l1 x7_1)] (by rfl) rfl rfl (by (try simp only [List.map_toArray, List.map_cons, List.map_nil]); first | done | (rw [show (l1.take (x7_1 : Int).toNat).length = x7_1.toNat from (by rw [List.length_take]; have h_ : (x7_1 : Int) ≤ (l1.length : Int) := of_decide_eq_true aS; omega)] <;> rfl) | rfl | (simp only [List.length_drop, List.length_take]; rfl)) ?_
        with_reducible refine (eyewitnessref22_has.calls k1 _ _ (l1.take (x7_1 : Int).toNat) (rd l1 x7_1) true _ ?side1 ?side2 A11.out).mono ?_
        (case side1 => exact tC HR252)
        (case side2 => exact HC252.out)
        rintro e w' ⟨rfl, ⟨nd, rfl⟩⟩
        refine ⟨_, rfl, ?_⟩
        refine hK.out _ _ ⟨(blk_cell BK249.out 0).trans rfl, (blk_cell BK249.out 1).trans rfl, (blk_cell BK249.out 2).trans rfl, (pw_cell_below HB.out hw250_0), (pw_cell_below HB.out hw253_0)⟩ (fun hHeld => ?_)
        clear hK K
        refine norm_ (a' := ?_) ?_ ?_
        rotate_left
        ·show Act.put _ (some 32) _ = _
         simp only [Act.put, List.setIfInBounds_toArray, List.set_cons_zero, List.set_cons_succ, i64_w, i32_w]
         rfl
        refine pX 16 33 (bl 17 131071) HT_ rfl rfl kA (fun _ _ _ h => h) yA hA ?_
        refine done_ (done_of HT_.out (by kernel_rfl)) ?_
        try go_wp2
        go_ret
        exact ⟨by first | rfl | (simp [errW_none, errW_some] <;> rfl) | (simp [*, errW_none, errW_some] <;> rfl), tH⟩
       ·replace c12 := Bool.eq_false_iff.mpr c12
        subst c12
        have H1 : (eyewitnessref22_Legal.l0 k1 l1 l2 (wrap64 (x7_1 + 1)) l0_0 l0_1 l0_2) = some r := by rw [if_neg (show ¬ (false = true) by decide)] at H; exact H
        clear H
        have H := H1
        clear H1
        have H' := Aside0.mk H
        clear H
        try go_wp2
        have n0_ := Aside0.mk (blk_drew BK249.out)
        have n1_ := Aside0.mk (below_drew1 HB.out)
        clear BK249
        clear HB
        have BK249 := n0_
        have HB := n1_
        clear n0_ n1_
        have p250 : 0 ≤ (x7_1 : Int) := of_decide_eq_true aS
        have q250 : x7_1 < (l1.length : Int) := of_decide_eq_true aS
        obtain ⟨ad250, e250, hx250_0⟩ := Kd.at_int HR1.out x7_1 p250 q250
        have hw250_0 := hx250_0
        cases e250
        replace hx250_0 := pw_cell_below HB.out hx250_0
        replace p250 := eq_true p250
        replace q250 := eq_true q250
        have p253 : 0 ≤ (x7_1 : Int) := of_decide_eq_true aS
        have q253 : x7_1 < (l1.length : Int) := of_decide_eq_true aS
        obtain ⟨ad253, e253, hx253_0⟩ := Kd.at_int HR1.out x7_1 p253 q253
        have hw253_0 := hx253_0
        obtain rfl : ad250 = ad253 := (by injection e253)
        replace hx253_0 := pw_cell_below HB.out hx253_0
        replace p253 := eq_true p253
        replace q253 := eq_true q253
        refine start_ (n := 17) (S := fun w' => w'.cell? ⟨gb249, 0, none⟩ = some (.slice A0_0 l0_0.length c0_0) ∧ w'.cell? ⟨gb249, 1, none⟩ = some (.slice A0_1 l0_1.length c0_1) ∧ w'.cell? ⟨gb249, 2, none⟩ = some (.slice A0_2 l0_2.length c0_2) ∧ w'.cell? (ad250.add (x7_1).toNat) = some (.int .i64 (rd l1 x7_1)) ∧ w'.cell? (ad250.add (x7_1).toNat) = some (.int .i64 (rd l1 x7_1))) (ds := []) (bl 17 0) (by kernel_rfl) rfl rfl ⟨(blk_cell BK249.out 0).trans rfl, (blk_cell BK249.out 1).trans rfl, (blk_cell BK249.out 2).trans rfl, (pw_cell_below HB.out hw250_0), (pw_cell_below HB.out hw253_0)⟩ (fun hHeld => ?_); refine with_tabW eyewitnessref22_Legal.tab4 eyewitnessref22_Legal.bits4 (fun HT_ HW_ => ?_)
        generalize wr.drew = w16 at BK249 HB hx250_0 hx253_0 hHeld ⊢
        refine pX 1 18 (bl 17 2) HT_ rfl rfl kA (fun _ _ _ h => h) yA hA ?_
        refine pX 2 19 (bl 17 6) HT_ rfl rfl kA (fun _ _ _ h => h) yA hA ?_
        refine pX 3 20 (bl 17 14) HT_ rfl rfl kA (fun _ _ _ h => h) yA hA ?_
        refine pT 0 17 (bl 17 15) HT_ HW_ rfl rfl kA (fun _ _ _ h => h) yS hHeld hA ?_
        refine pT 4 21 (bl 17 31) HT_ HW_ rfl rfl kA (fun _ _ _ h => h) yS hHeld hA ?_
        refine one_ (i := 5) (N := some 22) (bl 17 63) rfl rfl (one_of HT_.out (by kernel_rfl)) (by decide) (fun K hK => ?_)
        refine goes_ Try.func19 (by kernel_rfl) rfl #[.agg #[.slice A0_0 l0_0.length c0_0, .slice A0_1 l0_1.length c0_1, .slice A0_2 l0_2.length c0_2], .int .i64 (rd l1 x7_1)] (by rfl) rfl rfl (by (try simp only [List.map_toArray, List.map_cons, List.map_nil]); first | done | rfl | (simp only [List.length_drop, List.length_take]; rfl)) ?_
        with_reducible refine (eyewitnessref22_item.calls _ _ l0_0 _ _ l0_1 _ _ l0_2 (rd l1 x7_1) true _ ?side1 ?side2 ?side3 ?side4 ?side5 ?side6 A7.out).mono ?_
        (case side1 => exact tC HR0_0)
        (case side2 => exact HC0_0.out)
        (case side3 => exact tC HR0_1)
        (case side4 => exact HC0_1.out)
        (case side5 => exact tC HR0_2)
        (case side6 => exact HC0_2.out)
        rintro e w17 ⟨rfl, hb⟩
        refine ⟨_, rfl, ?_⟩
        have n0_ := Aside0.mk (blk_below (g := gb249) tB hb)
        have n1_ := Aside0.mk (below_step tH hb)
        clear BK249
        clear HB
        have BK249 := n0_
        have HB := n1_
        clear n0_ n1_
        (try clear hb)
        (try clear hb2)
        (try clear hk)
        (try clear hi)
        obtain ⟨i018, hi018, _, hsz18, _⟩ := info_parts info3
        obtain ⟨hcut18, hA18, hC18⟩ := print_take_of (P := Try.prog) (Value.int .i64) 0 23 3 .i64 Try.underlying23 hi018 hsz18 (some ad250) c1 l1 x7_1 (of_decide_eq_true aS) (of_decide_eq_true aS) HC1.out
        have HR252 := Aside0.mk (Kd.C_of_reads (h1 := fun _ => rfl) (hA18 _ (Kd.reads_of_C HR1.out)))
        have HC252 := Aside0.mk hC18
        clear hA18 hC18 hi018 hsz18
        refine hK.out _ _ ⟨(blk_cell BK249.out 0).trans rfl, (blk_cell BK249.out 1).trans rfl, (blk_cell BK249.out 2).trans rfl, (pw_cell_below HB.out hw250_0), (pw_cell_below HB.out hw253_0)⟩ (fun hHeld => ?_)
        clear hK K
        refine norm_ (a' := ?_) ?_ ?_
        rotate_left
        ·show Act.put _ (some 22) _ = _
         simp only [Act.put, List.setIfInBounds_toArray, List.set_cons_zero, List.set_cons_succ, i64_w, i32_w]
         rfl
        refine pX 6 23 (bl 17 127) HT_ rfl rfl kA (fun _ _ _ h => h) yA hA ?_
        refine pX 7 24 (bl 17 255) HT_ rfl rfl kA (fun _ _ _ h => h) yA hA ?_
        refine pX 8 25 (bl 17 511) HT_ rfl rfl kA (fun _ _ _ h => h) yA hA ?_
        refine pX 9 26 (bl 17 1023) HT_ rfl rfl kA (fun _ _ _ h => h) yA hA ?_
        refine pX 10 27 (bl 17 2047) HT_ rfl rfl kA (fun _ _ _ h => h) yA hA ?_
        refine pX 11 28 (bl 17 4095) HT_ rfl rfl kA (fun _ _ _ h => h) yA hA ?_
        refine pX 12 29 (bl 17 8191) HT_ rfl rfl kA (fun _ _ _ h => h) yA hA ?_
        refine pX 13 30 (bl 17 16383) HT_ rfl rfl kA (fun _ _ _ h => h) yA hA ?_
        refine pT 14 31 (bl 17 32767) HT_ HW_ rfl rfl kA (fun _ _ _ h => h) yS hHeld hA ?_
        refine one_ (i := 15) (N := some 32) (bl 17 65535) rfl rfl (one_of HT_.out (by kernel_rfl)) (by decide) (fun K hK => ?_)
        refine goes_ Try.func20 (by kernel_rfl) rfl #[.slice (some ad250) (l1.take (x7_1 : Int).toNat).length c1, .int .i64 (rd l1 x7_1)] (by rfl) rfl rfl (by (try simp only [List.map_toArray, List.map_cons, List.map_nil]); first | done | (rw [show (l1.take (x7_1 : Int).toNat).length = x7_1.toNat from (by rw [List.length_take]; have h_ : (x7_1 : Int) ≤ (l1.length : Int) := of_decide_eq_true aS; omega)] <;> rfl) | rfl | (simp only [List.length_drop, List.length_take]; rfl)) ?_
        with_reducible refine (eyewitnessref22_has.calls k1 _ _ (l1.take (x7_1 : Int).toNat) (rd l1 x7_1) false _ ?side1 ?side2 A11.out).mono ?_
        (case side1 => exact tC HR252)
        (case side2 => exact HC252.out)
        rintro e w' ⟨rfl, ⟨nd, rfl⟩⟩
        refine ⟨_, rfl, ?_⟩
        refine hK.out _ _ ⟨(blk_cell BK249.out 0).trans rfl, (blk_cell BK249.out 1).trans rfl, (blk_cell BK249.out 2).trans rfl, (pw_cell_below HB.out hw250_0), (pw_cell_below HB.out hw253_0)⟩ (fun hHeld => ?_)
        clear hK K
        refine norm_ (a' := ?_) ?_ ?_
        rotate_left
        ·show Act.put _ (some 32) _ = _
         simp only [Act.put, List.setIfInBounds_toArray, List.set_cons_zero, List.set_cons_succ, i64_w, i32_w]
         rfl
        refine pX 16 33 (bl 17 131071) HT_ rfl rfl kA (fun _ _ _ h => h) yA hA ?_
        refine done_ (done_of HT_.out (by kernel_rfl)) ?_
        try go_wp2
        go_roundg k1
        case measure => have := HK1.out; omega
        case rel => exact ⟨(wrap64 (x7_1 + 1)), (by first | rfl | (simp; done) | (simp [*]; done)), H', ⟨by have := HK1.out; omega⟩, ⟨by (with_reducible repeat (first | refine blk_drewN ?_ _ | refine blk_drew ?_ | refine blk_alloc ?_ _)); exact BK249.out⟩, ⟨tH⟩⟩
      ·rw [if_neg c10] at H
       exact absurd H (by simp)
     ·replace c8 := Bool.eq_false_iff.mpr c8
      subst c8
      have H1 : (some false) = some r := by rw [if_neg (show ¬ (false = true) by decide)] at H; exact H
      clear H
      have H := H1
      clear H1
      obtain rfl := Option.some.inj H
      try go_wp2
      have n0_ := Aside0.mk (blk_drew BK249.out)
      have n1_ := Aside0.mk (below_drew1 HB.out)
      clear BK249
      clear HB
      have BK249 := n0_
      have HB := n1_
      clear n0_ n1_
      have p250 : 0 ≤ (x7_1 : Int) := of_decide_eq_true aS
      have q250 : x7_1 < (l1.length : Int) := of_decide_eq_true aS
      obtain ⟨ad250, e250, hx250_0⟩ := Kd.at_int HR1.out x7_1 p250 q250
      have hw250_0 := hx250_0
      cases e250
      replace hx250_0 := pw_cell_below HB.out hx250_0
      replace p250 := eq_true p250
      replace q250 := eq_true q250
      refine start_ (n := 17) (S := fun w' => w'.cell? ⟨gb249, 0, none⟩ = some (.slice A0_0 l0_0.length c0_0) ∧ w'.cell? ⟨gb249, 1, none⟩ = some (.slice A0_1 l0_1.length c0_1) ∧ w'.cell? ⟨gb249, 2, none⟩ = some (.slice A0_2 l0_2.length c0_2) ∧ w'.cell? (ad250.add (x7_1).toNat) = some (.int .i64 (rd l1 x7_1))) (ds := []) (bl 17 0) (by kernel_rfl) rfl rfl ⟨(blk_cell BK249.out 0).trans rfl, (blk_cell BK249.out 1).trans rfl, (blk_cell BK249.out 2).trans rfl, (pw_cell_below HB.out hw250_0)⟩ (fun hHeld => ?_); refine with_tabW eyewitnessref22_Legal.tab4 eyewitnessref22_Legal.bits4 (fun HT_ HW_ => ?_)
      generalize wr.drew = w19 at BK249 HB hx250_0 hHeld ⊢
      refine pX 1 18 (bl 17 2) HT_ rfl rfl kA (fun _ _ _ h => h) yA hA ?_
      refine pX 2 19 (bl 17 6) HT_ rfl rfl kA (fun _ _ _ h => h) yA hA ?_
      refine pX 3 20 (bl 17 14) HT_ rfl rfl kA (fun _ _ _ h => h) yA hA ?_
      refine pT 0 17 (bl 17 15) HT_ HW_ rfl rfl kA (fun _ _ _ h => h) yS hHeld hA ?_
      refine pT 4 21 (bl 17 31) HT_ HW_ rfl rfl kA (fun _ _ _ h => h) yS hHeld hA ?_
      refine one_ (i := 5) (N := some 22) (bl 17 63) rfl rfl (one_of HT_.out (by kernel_rfl)) (by decide) (fun K hK => ?_)
      refine goes_ Try.func19 (by kernel_rfl) rfl #[.agg #[.slice A0_0 l0_0.length c0_0, .slice A0_1 l0_1.length c0_1, .slice A0_2 l0_2.length c0_2], .int .i64 (rd l1 x7_1)] (by rfl) rfl rfl (by (try simp only [List.map_toArray, List.map_cons, List.map_nil]); first | done | rfl | (simp only [List.length_drop, List.length_take]; rfl)) ?_
      with_reducible refine (eyewitnessref22_item.calls _ _ l0_0 _ _ l0_1 _ _ l0_2 (rd l1 x7_1) false _ ?side1 ?side2 ?side3 ?side4 ?side5 ?side6 A7.out).mono ?_
      (case side1 => exact tC HR0_0)
      (case side2 => exact HC0_0.out)
      (case side3 => exact tC HR0_1)
      (case side4 => exact HC0_1.out)
      (case side5 => exact tC HR0_2)
      (case side6 => exact HC0_2.out)
      rintro e w20 ⟨rfl, hb⟩
      refine ⟨_, rfl, ?_⟩
      have n0_ := Aside0.mk (blk_below (g := gb249) tB hb)
      have n1_ := Aside0.mk (below_step tH hb)
      clear BK249
      clear HB
      have BK249 := n0_
      have HB := n1_
      clear n0_ n1_
      (try clear hb)
      (try clear hb2)
      (try clear hk)
      (try clear hi)
      refine hK.out _ _ ⟨(blk_cell BK249.out 0).trans rfl, (blk_cell BK249.out 1).trans rfl, (blk_cell BK249.out 2).trans rfl, (pw_cell_below HB.out hw250_0)⟩ (fun hHeld => ?_)
      clear hK K
      refine norm_ (a' := ?_) ?_ ?_
      rotate_left
      ·show Act.put _ (some 22) _ = _
       simp only [Act.put, List.setIfInBounds_toArray, List.set_cons_zero, List.set_cons_succ, i64_w, i32_w]
       rfl
      refine pX 6 23 (bl 17 127) HT_ rfl rfl kA (fun _ _ _ h => h) yA hA ?_
      refine pX 7 24 (bl 17 255) HT_ rfl rfl kA (fun _ _ _ h => h) yA hA ?_
      refine pU 8 25 (bl 17 511) HT_ rfl rfl kA (fun _ _ _ h => h) (by rfl) hA ?_
      refine pU 9 26 (bl 17 1023) HT_ rfl rfl kA (fun _ _ _ h => h) (by rfl) hA ?_
      refine pU 10 27 (bl 17 2047) HT_ rfl rfl kA (fun _ _ _ h => h) (by rfl) hA ?_
      refine pU 11 28 (bl 17 4095) HT_ rfl rfl kA (fun _ _ _ h => h) (by rfl) hA ?_
      refine pU 12 29 (bl 17 8191) HT_ rfl rfl kA (fun _ _ _ h => h) (by rfl) hA ?_
      refine pU 13 30 (bl 17 16383) HT_ rfl rfl kA (fun _ _ _ h => h) (by rfl) hA ?_
      refine pU 14 31 (bl 17 32767) HT_ rfl rfl kA (fun _ _ _ h => h) (by rfl) hA ?_
      refine pU 15 32 (bl 17 65535) HT_ rfl rfl kA (fun _ _ _ h => h) (by rfl) hA ?_
      refine pX 16 33 (bl 17 131071) HT_ rfl rfl kA (fun _ _ _ h => h) yA hA ?_
      refine done_ (done_of HT_.out (by kernel_rfl)) ?_
      try go_wp2
      go_ret
      exact ⟨by first | rfl | (simp [errW_none, errW_some] <;> rfl) | (simp [*, errW_none, errW_some] <;> rfl), tH⟩
    ·rw [if_neg c6] at H
     exact absurd H (by simp)
   ·rw [if_neg c5] at H
    have c5b0 : decide (x7_1 < (l1.length : Int)) = false := decide_eq_false c5
    clear c5
    have H' := Aside0.mk H
    clear H
    go_wp2
    go_loopg [8] k1 (fun kq v8 w' => ∃ (x8_2 : Int), v8 = .int .i64 x8_2 ∧ Aside0 (eyewitnessref22_Legal.l1 kq l1 l2 x8_2 l0_0 l0_1 l0_2 = some r) ∧ Aside0 (kq ≤ k1) ∧ Aside0 (w'.heap[gb249]? = some (.cells #[(.slice A0_0 l0_0.length c0_0), (.slice A0_1 l0_1.length c0_1), (.slice A0_2 l0_2.length c0_2)] 31 (0, 0))) ∧ Aside0 (Below w.heap.size w w'))
    case atStart => exact ⟨(0), (by first | rfl | (simp; done) | (simp [*]; done)), H', ⟨Nat.le_refl _⟩, ⟨by (with_reducible repeat (first | refine blk_drewN ?_ _ | refine blk_drew ?_ | refine blk_alloc ?_ _)); exact BK249.out⟩, ⟨tH⟩⟩
    case round =>
     clear H'
     try clear c1
     try clear c2
     try clear p2
     try clear q2
     try clear hx2
     try clear c5
     try clear c5b0
     try clear c6
     try clear p6
     try clear c8
     try clear c9
     try clear c9b0
     try clear c10
     try clear c10b0
     try clear c10b1
     try clear c12
     try clear c19
     try clear c20
     try clear hx250_0
     try clear hx253_0
     try clear p250
     try clear p253
     try clear q250
     try clear q253
     obtain ⟨x8_2, rfl, HA, HK2, BK249, HB⟩ := hrel
     cases gk with
     | zero => exact absurd HA.out (by simp [eyewitnessref22_Legal.l1])
     | succ k2 =>
      have H := HA.out
      clear HA
      simp only [eyewitnessref22_Legal.l1] at H
      by_cases c21 : x8_2 < (l2.length : Int)
      ·rw [if_pos c21] at H
       have c21b0 : decide (x8_2 < (l2.length : Int)) = true := decide_eq_true c21
       clear c21
       by_cases c22 : 0 ≤ x8_2
       ·rw [if_pos c22] at H
        have c22b0 : decide (0 ≤ x8_2) = true := decide_eq_true c22
        clear c22
        replace H := Option.bind_eq_some_iff.mp H
        obtain ⟨t256, A230, H⟩ := H
        replace H : (if t256 = true then (eyewitnessref22_Legal.l1 k2 l1 l2 (wrap64 (x8_2 + 1)) l0_0 l0_1 l0_2) else (some false)) = some r := H
        have A23 := Aside0.mk A230
        clear A230
        by_cases c24 : t256 = true
        ·subst c24
         have H1 : (eyewitnessref22_Legal.l1 k2 l1 l2 (wrap64 (x8_2 + 1)) l0_0 l0_1 l0_2) = some r := by rw [if_pos rfl] at H; exact H
         clear H
         have H := H1
         clear H1
         have H' := Aside0.mk H
         clear H
         have p255 : 0 ≤ (x8_2 : Int) := of_decide_eq_true aS
         have q255 : x8_2 < (l2.length : Int) := of_decide_eq_true aS
         obtain ⟨ad255, e255, hx255_0⟩ := Kd.at_int HR2.out x8_2 p255 q255
         cases e255
         replace hx255_0 := pw_cell_below HB.out hx255_0
         replace p255 := eq_true p255
         replace q255 := eq_true q255
         go_wp2_with (first | ((with_reducible refine gate_callee (f := 20) rfl ?_); refine goesL_ (some 45) rfl rfl Try.func20 (by kernel_rfl) rfl #[.slice A1 l1.length c1, .int .i64 (rd l2 x8_2)] rfl (by (try simp only [List.map_toArray, List.map_cons, List.map_nil]); first | done | rfl | (simp only [List.length_drop, List.length_take]; rfl)) ?_; (with_reducible refine (eyewitnessref22_has.calls k2 _ _ l1 (rd l2 x8_2) true _ ?side1 ?side2 A23.out).mono ?_); (case side1 => exact tC HR1); (case side2 => exact HC1.out); rintro e w' ⟨rfl, ⟨nd, rfl⟩⟩; refine ⟨_, rfl, ?_⟩))
         go_roundg k2
         case measure => have := HK1.out; have := HK2.out; omega
         case rel => exact ⟨(wrap64 (x8_2 + 1)), (by first | rfl | (simp; done) | (simp [*]; done)), H', ⟨by have := HK1.out; have := HK2.out; omega⟩, ⟨by (with_reducible repeat (first | refine blk_drewN ?_ _ | refine blk_drew ?_ | refine blk_alloc ?_ _)); exact BK249.out⟩, ⟨tH⟩⟩
        ·replace c24 := Bool.eq_false_iff.mpr c24
         subst c24
         have H1 : (some false) = some r := by rw [if_neg (show ¬ (false = true) by decide)] at H; exact H
         clear H
         have H := H1
         clear H1
         obtain rfl := Option.some.inj H
         have p255 : 0 ≤ (x8_2 : Int) := of_decide_eq_true aS
         have q255 : x8_2 < (l2.length : Int) := of_decide_eq_true aS
         obtain ⟨ad255, e255, hx255_0⟩ := Kd.at_int HR2.out x8_2 p255 q255
         cases e255
         replace hx255_0 := pw_cell_below HB.out hx255_0
         replace p255 := eq_true p255
         replace q255 := eq_true q255
         go_wp2_with (first | ((with_reducible refine gate_callee (f := 20) rfl ?_); refine goesL_ (some 45) rfl rfl Try.func20 (by kernel_rfl) rfl #[.slice A1 l1.length c1, .int .i64 (rd l2 x8_2)] rfl (by (try simp only [List.map_toArray, List.map_cons, List.map_nil]); first | done | rfl | (simp only [List.length_drop, List.length_take]; rfl)) ?_; (with_reducible refine (eyewitnessref22_has.calls k2 _ _ l1 (rd l2 x8_2) false _ ?side1 ?side2 A23.out).mono ?_); (case side1 => exact tC HR1); (case side2 => exact HC1.out); rintro e w' ⟨rfl, ⟨nd, rfl⟩⟩; refine ⟨_, rfl, ?_⟩))
         go_ret
         exact ⟨by first | rfl | (simp [errW_none, errW_some] <;> rfl) | (simp [*, errW_none, errW_some] <;> rfl), tH⟩
       ·rw [if_neg c22] at H
        exact absurd H (by simp)
      ·rw [if_neg c21] at H
       have c21b0 : decide (x8_2 < (l2.length : Int)) = false := decide_eq_false c21
       clear c21
       replace H := Option.bind_eq_some_iff.mp H
       obtain ⟨⟨t257, t258⟩, A250, H⟩ := H
       replace H : (some (!t258)) = some r := H
       have A25 := Aside0.mk A250
       clear A250
       obtain rfl := Option.some.inj H
       have hcz26_0 : wr.cell? ⟨gb249, 0, none⟩ = some (.slice A0_0 l0_0.length c0_0) := (blk_cell BK249.out 0).trans rfl
       have hcz26_1 : wr.cell? ⟨gb249, 1, none⟩ = some (.slice A0_1 l0_1.length c0_1) := (blk_cell BK249.out 1).trans rfl
       have hcz26_2 : wr.cell? ⟨gb249, 2, none⟩ = some (.slice A0_2 l0_2.length c0_2) := (blk_cell BK249.out 2).trans rfl
       have hfz26_0 := blk_frozen BK249.out 0
       have hfz26_1 := blk_frozen BK249.out 1
       have hfz26_2 := blk_frozen BK249.out 2
       go_wp2_with (first | ((with_reducible refine gate_callee (f := 10) rfl ?_); refine goesL_ (some 51) rfl rfl Try.func10 (by kernel_rfl) rfl #[.agg #[.slice A0_0 l0_0.length c0_0, .slice A0_1 l0_1.length c0_1, .slice A0_2 l0_2.length c0_2], .slice A1 l1.length c1, .slice A2 l2.length c2] rfl (by (try simp only [List.map_toArray, List.map_cons, List.map_nil]); first | done | rfl | (simp only [List.length_drop, List.length_take]; rfl)) ?_; (with_reducible refine (eyewitnessref22_Wrong.calls k2 _ _ l0_0 _ _ l0_1 _ _ l0_2 _ _ l1 _ _ l2 t257 t258 _ ?side1 ?side2 ?side3 ?side4 ?side5 ?side6 ?side7 ?side8 ?side9 ?side10 A25.out).mono ?_); (case side1 => exact tC HR0_0); (case side2 => exact HC0_0.out); (case side3 => exact tC HR0_1); (case side4 => exact HC0_1.out); (case side5 => exact tC HR0_2); (case side6 => exact HC0_2.out); (case side7 => exact tC HR1); (case side8 => exact HC1.out); (case side9 => exact tC HR2); (case side10 => exact HC2.out); rintro e w27 ⟨rfl, hb⟩; refine ⟨_, rfl, ?_⟩; have n0_ := Aside0.mk (blk_below (g := gb249) tB hb); have n1_ := Aside0.mk (below_step tH hb); clear BK249; clear HB; have BK249 := n0_; have HB := n1_; clear n0_ n1_; (try clear hb); (try clear hb2); (try clear hk); (try clear hi)))
       go_ret
       exact ⟨by first | rfl | (simp [errW_none, errW_some] <;> rfl) | (simp [*, errW_none, errW_some] <;> rfl), tH⟩

end Go.Proofs.Ytcnjnollmamifaa.P
