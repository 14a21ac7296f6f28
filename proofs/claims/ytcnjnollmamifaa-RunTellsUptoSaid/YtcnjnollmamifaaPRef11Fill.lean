-- written by a program (wip/tools/pr.py: the kit's print over this seat)
import Derived.Test.YtcnjnollmamifaaPKinds
import Derived.Test.YtcnjnollmamifaaPRef11From
namespace Go.Proofs.Ytcnjnollmamifaa.P
open Go.RowKit Go.Proofs.YtcnjnollmamifaaW.PrintWords Go.Proofs.YtcnjnollmamifaaW.PrintLast Go.Proofs.YtcnjnollmamifaaW.PrintMore
attribute [local go_sem] max2_int min2_int max_two min_two max_three min_three max_four min_four   -- for this text's walks alone
set_option linter.unusedVariables false
set_option linter.unusedSimpArgs false

/-! ### eyewitnessref11_Fill: function 17 -/
def eyewitnessref11_Fill.f (k : Nat) (l0_0 : List ByteArray) (l0_1 : List (S40)) (l0_2 : List Int) : Option (List ByteArray × (List (S40)) × List Int) := (eyewitnessref11_From.f k l0_0 l0_1 l0_2).bind fun t164 => (some (l0_0, l0_1, t164))
theorem eyewitnessref11_Fill.mono : ∀ a0 a1 a2 k, LeO (eyewitnessref11_Fill.f k a0 a1 a2) (eyewitnessref11_Fill.f (k + 1) a0 a1 a2) := by
 intro a0 a1 a2 k
 unfold eyewitnessref11_Fill.f
 repeat' first
   | (with_reducible exact eyewitnessref11_From.mono _ _ _ _)
   | (with_reducible exact LeO.refl _)
   | (with_reducible exact LeO.none _)
   | (with_reducible refine LeO.ite ?_ ?_)
   | (with_reducible refine LeO.bind ?_ (fun _ => ?_))
   | exact eyewitnessref11_From.mono _ _ _ _
   | exact LeO.none _
   | refine LeO.ite ?_ ?_
   | refine LeO.bind ?_ (fun _ => ?_)
def eyewitnessref11_Fill.T1 : Bool × List (List Nat × List Nat) := (true, [([], []), ([0], [0]), ([], []), ([2], [2]), ([], []), ([4], [4]), ([1, 3, 5], [1, 3, 5]), ([6, 5, 0, 1, 2, 3, 4, 5, 6], [6])])
def eyewitnessref11_Fill.B1 : List Nat := [0, 1, 0, 4, 0, 16, 63, 127]
theorem eyewitnessref11_Fill.tab1 : rtab .any (opsOf Try.f17 1) = eyewitnessref11_Fill.T1 := by kernel_rfl
theorem eyewitnessref11_Fill.bits1 : waitsOk eyewitnessref11_Fill.T1.2 eyewitnessref11_Fill.B1 = true := by kernel_rfl
set_option maxHeartbeats 8000000 in
set_option maxRecDepth 100000 in
theorem eyewitnessref11_Fill.calls (k : Nat) (P0_0_ : Nat → Prop) (u9000_ : Value) (l0_0 : List ByteArray) (P0_1_ : Nat → Prop) (u9001_ : Value) (l0_1 : List (S40)) (A0_2 : Option Addr) (c0_2 : Nat) (l0_2 : List Int) (r1 : List ByteArray) (r2 : List (S40)) (r3 : List Int) (w0 w : World) (hB : Below w0.heap.size w0 w) (ho0_0 : Kd.R Kd.string 9 w w0.heap.size P0_0_ u9000_ l0_0) (ho0_1 : Kd.R k40 40 w w0.heap.size P0_1_ u9001_ l0_1) (hr0_2 : ∀ W_, Kept w W_ (fun k_ => P0_0_ k_ ∨ P0_1_ k_) → Kd.C (Kd.int .i64) W_ A0_2 l0_2.length l0_2) (hc0_2 : l0_2.length ≤ c0_2) (h : eyewitnessref11_Fill.f k l0_0 l0_1 l0_2 = some (r1, r2, r3)) :
  Calls Try.prog 17 #[.agg #[u9000_, u9001_, .slice A0_2 l0_2.length c0_2]] w fun e w' => ∃ v0_ v1_ v2_ : Value, e = .returned (.agg #[v0_, v1_, v2_]) ∧ Kd.R Kd.string 9 w' w0.heap.size (fun k_ => ((P0_0_ k_ ∨ P0_1_ k_) ∨ w.heap.size ≤ k_)) v0_ r1 ∧ Kd.R k40 40 w' w0.heap.size (fun k_ => ((P0_0_ k_ ∨ P0_1_ k_) ∨ w.heap.size ≤ k_)) v1_ r2 ∧ Kd.R (Kd.int .i64) 3 w' w0.heap.size (fun k_ => ((P0_0_ k_ ∨ P0_1_ k_) ∨ w.heap.size ≤ k_)) v2_ r3 ∧ Below w0.heap.size w0 w' ∧ Kept w w' (fun k_ => P0_0_ k_ ∨ P0_1_ k_) := by
 have hu31 := Try.underlying31
 have HO0_0 := Aside0.mk (show Kd.R Kd.string 9 w w0.heap.size (fun k_ => ((P0_0_ k_ ∨ P0_1_ k_) ∨ w.heap.size ≤ k_)) u9000_ l0_0 from Kd.R_mono ho0_0 (fun k_ hk => (.inl (.inl hk))))
 have HO0_1 := Aside0.mk (show Kd.R k40 40 w w0.heap.size (fun k_ => ((P0_0_ k_ ∨ P0_1_ k_) ∨ w.heap.size ≤ k_)) u9001_ l0_1 from Kd.R_mono ho0_1 (fun k_ hk => (.inl (.inr hk))))
 have HR0_2 := Aside0.mk hr0_2
 have HC0_2 := Aside0.mk hc0_2
 clear hr0_2 hc0_2
 have HK := Aside0.mk (Kept.refl w (fun k_ => P0_0_ k_ ∨ P0_1_ k_))
 have HW0 := Aside0.mk hB.size
 have HB := Aside0.mk hB
 clear hB
 have H : ((eyewitnessref11_From.f k l0_0 l0_1 l0_2).bind fun t164 => (some (l0_0, l0_1, t164))) = some (r1, r2, r3) := h
 clear h
 replace H := Option.bind_eq_some_iff.mp H
 obtain ⟨t164, A20, H⟩ := H
 replace H : (some (l0_0, l0_1, t164)) = some (r1, r2, r3) := H
 have A2 := Aside0.mk A20
 clear A20
 simp only [Option.some.injEq, Prod.mk.injEq] at H
 obtain ⟨rfl, rfl, rfl⟩ := H
 obtain ⟨Ao3, co3, eo3⟩ := Kd.R_slice HO0_0.out
 subst eo3
 obtain ⟨Ao4, co4, eo4⟩ := Kd.R_slice HO0_1.out
 subst eo4
 go_enter Try.func17, Try.ntmps17
 try go_wp2_with (first | ((with_reducible refine gate_dst (N := 1) rfl ?_); refine box_event ?hg (N := 1) ?hd (cs := #[.slice Ao3 l0_0.length co3, .slice Ao4 l0_1.length co4, .slice A0_2 l0_2.length c0_2]) (t := 31) ?hr ?_; (case hd => rfl); (case hg => rfl); (case hr => first | (go_simp; done) | (go_simp; rfl)); intro gb162 hg w5 hbox hb; have n0_ := Aside0.mk (Kd.R_below (tRr HO0_0) hb); have n1_ := Aside0.mk (Kd.R_below (tRr HO0_1) hb); have n2_ := Aside0.mk (Kept.below (S := (fun k_ => P0_0_ k_ ∨ P0_1_ k_)) (by repeat (first | (with_reducible first | exact HK.out | apply Kept.alloc | apply Kept.drewN | apply Kept.drew) | exact HK.out)) hb); have n3_ := Aside0.mk (below_step tH hb); have n4_ := Aside0.mk (hbox); have n5_ := Aside0.mk ((by rw [hg]; exact (by first | exact HK.out.1 | exact (show Kept w _ (fun k_ => P0_0_ k_ ∨ P0_1_ k_) from by repeat (first | (with_reducible first | exact HK.out | apply Kept.alloc | apply Kept.drewN | apply Kept.drew) | exact HK.out)).1) : w.heap.size ≤ gb162)); have n6_ := Aside0.mk ((by rw [hg]; exact (below_size tH) : w0.heap.size ≤ gb162)); clear HO0_0; clear HO0_1; clear HK; clear HB; have HO0_0 := n0_; have HO0_1 := n1_; have HK := n2_; have HB := n3_; have BK162 := n4_; have GW162 := n5_; have GE162 := n6_; clear n0_ n1_ n2_ n3_ n4_ n5_ n6_; clear hb hbox hg) | ((with_reducible refine gate_dst (N := 2) rfl ?_); refine box_event ?hg (N := 2) ?hd (cs := #[.slice none 0 0, .slice none 0 0, .slice none 0 0]) (t := 31) ?hr ?_; (case hd => rfl); (case hg => rfl); (case hr => first | (go_simp; done) | (go_simp; rfl)); intro gb163 hg w6 hbox hb; have n0_ := Aside0.mk (Kd.R_below (tRr HO0_0) hb); have n1_ := Aside0.mk (Kd.R_below (tRr HO0_1) hb); have n2_ := Aside0.mk (blk_below (g := gb162) tB hb); have n3_ := Aside0.mk (Kept.below (S := (fun k_ => P0_0_ k_ ∨ P0_1_ k_)) (by repeat (first | (with_reducible first | exact HK.out | apply Kept.alloc | apply Kept.drewN | apply Kept.drew | refine Kept.setCell ?_ (.inr GW162.out) _) | exact HK.out)) hb); have n4_ := Aside0.mk (below_step tH hb); have n5_ := Aside0.mk (hbox); have n6_ := Aside0.mk ((by rw [hg]; exact (by first | exact HK.out.1 | exact (show Kept w _ (fun k_ => P0_0_ k_ ∨ P0_1_ k_) from by repeat (first | (with_reducible first | exact HK.out | apply Kept.alloc | apply Kept.drewN | apply Kept.drew | refine Kept.setCell ?_ (.inr GW162.out) _) | exact HK.out)).1) : w.heap.size ≤ gb163)); have n7_ := Aside0.mk ((by rw [hg]; exact (below_size tH) : w0.heap.size ≤ gb163)); have n8_ := Aside0.mk ((by rw [hg]; exact Nat.ne_of_lt (blk_lt (g := gb162) tB) : gb162 ≠ gb163)); have n9_ := Aside0.mk ((by rw [hg]; exact Nat.ne_of_gt (blk_lt (g := gb162) tB) : gb163 ≠ gb162)); clear HO0_0; clear HO0_1; clear BK162; clear HK; clear HB; have HO0_0 := n0_; have HO0_1 := n1_; have BK162 := n2_; have HK := n3_; have HB := n4_; have BK163 := n5_; have GW163 := n6_; have GE163 := n7_; have NB162_163 := n8_; have NB163_162 := n9_; clear n0_ n1_ n2_ n3_ n4_ n5_ n6_ n7_ n8_ n9_; clear hb hbox hg))
 have n0_ := Aside0.mk (Kd.R_drew HO0_0.out)
 have n1_ := Aside0.mk (Kd.R_drew HO0_1.out)
 have n2_ := Aside0.mk (blk_drew BK162.out)
 have n3_ := Aside0.mk (blk_drew BK163.out)
 have n4_ := Aside0.mk (Kept.drew HK.out)
 have n5_ := Aside0.mk (below_drew1 HB.out)
 clear HO0_0
 clear HO0_1
 clear BK162
 clear BK163
 clear HK
 clear HB
 have HO0_0 := n0_
 have HO0_1 := n1_
 have BK162 := n2_
 have BK163 := n3_
 have HK := n4_
 have HB := n5_
 clear n0_ n1_ n2_ n3_ n4_ n5_
 refine start_ (n := 8) (S := fun w' => w'.cell? ⟨gb162, 0, none⟩ = some (.slice Ao3 l0_0.length co3) ∧ w'.cell? ⟨gb162, 1, none⟩ = some (.slice Ao4 l0_1.length co4) ∧ w'.cell? ⟨gb162, 2, none⟩ = some (.slice A0_2 l0_2.length c0_2)) (ds := []) (bl 8 0) (by kernel_rfl) rfl rfl ⟨(blk_cell BK162.out 0).trans rfl, (blk_cell BK162.out 1).trans rfl, (blk_cell BK162.out 2).trans rfl⟩ (fun hHeld => ?_); refine with_tabW eyewitnessref11_Fill.tab1 eyewitnessref11_Fill.bits1 (fun HT_ HW_ => ?_)
 generalize w6.drew = w7 at HO0_0 HO0_1 BK162 BK163 HK HB hHeld ⊢
 refine pX 0 3 (bl 8 1) HT_ rfl rfl kA (fun _ _ _ h => h) yA hA ?_
 refine pX 2 5 (bl 8 5) HT_ rfl rfl kA (fun _ _ _ h => h) yA hA ?_
 refine pT 1 4 (bl 8 7) HT_ HW_ rfl rfl kA (fun _ _ _ h => h) yS hHeld hA ?_
 refine pT 3 6 (bl 8 15) HT_ HW_ rfl rfl kA (fun _ _ _ h => h) yS hHeld hA ?_
 refine pT 4 7 (bl 8 31) HT_ HW_ rfl rfl kA (fun _ _ _ h => h) yS hHeld hA ?_
 refine one_ (i := 5) (N := some 8) (bl 8 63) rfl rfl (one_of HT_.out (by kernel_rfl)) (by decide) (fun K hK => ?_)
 refine goes_ Try.func25 (by kernel_rfl) rfl #[.agg #[.slice Ao3 l0_0.length co3, .slice Ao4 l0_1.length co4, .slice A0_2 l0_2.length c0_2]] (by rfl) rfl rfl (by (try simp only [List.map_toArray, List.map_cons, List.map_nil]); first | done | rfl | (simp only [List.length_drop, List.length_take]; rfl)) ?_
 with_reducible refine (eyewitnessref11_From.calls k _ _ l0_0 _ _ l0_1 _ _ l0_2 t164 _ ?side1 ?side2 ?side3 ?side4 ?side5 ?side6 A2.out).mono ?_
 (case side1 => exact tD (Kd.R_reads' HO0_0.out).2.2)
 (case side2 => exact (Kd.R_reads' HO0_0.out).2.1)
 (case side3 => exact tD (Kd.R_reads' HO0_1.out).2.2)
 (case side4 => exact (Kd.R_reads' HO0_1.out).2.1)
 (case side5 => exact Kd.C_kept_now HR0_2.out (by repeat (first | (with_reducible first | exact HK.out | apply Kept.alloc | apply Kept.drewN | apply Kept.drew | refine Kept.setCell ?_ (.inr GW162.out) _ | refine Kept.setCell ?_ (.inr GW163.out) _) | exact HK.out)))
 (case side6 => exact HC0_2.out)
 rintro e w8 ⟨v165, rfl, ho0, hb⟩
 refine ⟨_, rfl, ?_⟩
 have n0_ := Aside0.mk (Kd.R_below (tRr HO0_0) hb)
 have n1_ := Aside0.mk (Kd.R_below (tRr HO0_1) hb)
 have n2_ := Aside0.mk (Kd.R_lower (Kd.R_newM (M := fun k_ => ((P0_0_ k_ ∨ P0_1_ k_) ∨ w.heap.size ≤ k_)) ho0 (by first | exact HK.out.1 | exact (show Kept w _ (fun k_ => P0_0_ k_ ∨ P0_1_ k_) from by repeat (first | (with_reducible first | exact HK.out | apply Kept.alloc | apply Kept.drewN | apply Kept.drew | refine Kept.setCell ?_ (.inr GW162.out) _ | refine Kept.setCell ?_ (.inr GW163.out) _) | exact HK.out)).1) (fun k_ h_ => .inr h_)) (below_size tH))
 have n3_ := Aside0.mk (blk_below (g := gb162) tB hb)
 have n4_ := Aside0.mk (blk_below (g := gb163) tB hb)
 have n5_ := Aside0.mk (Kept.below (S := (fun k_ => P0_0_ k_ ∨ P0_1_ k_)) (by repeat (first | (with_reducible first | exact HK.out | apply Kept.alloc | apply Kept.drewN | apply Kept.drew | refine Kept.setCell ?_ (.inr GW162.out) _ | refine Kept.setCell ?_ (.inr GW163.out) _) | exact HK.out)) hb)
 have n6_ := Aside0.mk (below_step tH hb)
 clear HO0_0
 clear HO0_1
 clear BK162
 clear BK163
 clear HK
 clear HB
 have HO0_0 := n0_
 have HO0_1 := n1_
 have HO166 := n2_
 have BK162 := n3_
 have BK163 := n4_
 have HK := n5_
 have HB := n6_
 clear n0_ n1_ n2_ n3_ n4_ n5_ n6_
 (try clear hb)
 (try clear hb2)
 (try clear hk)
 (try clear hi)
 (try clear ho0)
 obtain ⟨Ao9, co9, eo9⟩ := Kd.R_slice HO166.out
 (first | subst eo9 | (injection eo9 with f1_ f2_ f3_; have f4_ := f1_.symm; have f5_ := f3_.symm; clear f1_ f2_ f3_; subst f4_; subst f5_))
 refine hK.out _ _ ⟨(blk_cell BK162.out 0).trans rfl, (blk_cell BK162.out 1).trans rfl, (blk_cell BK162.out 2).trans rfl⟩ (fun hHeld => ?_)
 clear hK K
 refine norm_ (a' := ?_) ?_ ?_
 rotate_left
 ·show Act.put _ (some 8) _ = _
  simp only [Act.put, List.setIfInBounds_toArray, List.set_cons_zero, List.set_cons_succ, i64_w, i32_w]
  rfl
 refine pX 6 9 (bl 8 127) HT_ rfl rfl kA (fun _ _ _ h => h) yA hA ?_
 refine one_ (i := 7) (N := none) (bl 8 255) rfl rfl (one_of HT_.out (by kernel_rfl)) (by decide) (fun K hK => ?_)
 have hs10 : w8.cell? ⟨gb163, 0, none⟩ = some (.slice none 0 0) := (blk_cell BK163.out 0).trans rfl
 have hfs10 := blk_frozen BK163.out 0
 have hns10_0 := NB162_163.out
 have hms10_0 := NB163_162.out
 have hs11 : w8.cell? ⟨gb163, 1, none⟩ = some (.slice none 0 0) := (blk_cell BK163.out 1).trans rfl
 have hfs11 := blk_frozen BK163.out 1
 have hns11_0 := NB162_163.out
 have hms11_0 := NB163_162.out
 have hs12 : w8.cell? ⟨gb163, 2, none⟩ = some (.slice none 0 0) := (blk_cell BK163.out 2).trans rfl
 have hfs12 := blk_frozen BK163.out 2
 have hns12_0 := NB162_163.out
 have hms12_0 := NB163_162.out
 refine skip_ (w1 := ?_) (by rfl) rfl ?_ ?_
 rotate_left
 ·go_simp
  rfl
 refine hK.out _ _ ⟨((cell_far (p := ⟨gb163, _, none⟩) NB162_163.out _).trans (((cell_far (p := ⟨gb163, _, none⟩) NB162_163.out _).trans (((cell_far (p := ⟨gb163, _, none⟩) NB162_163.out _).trans (hHeld.1)))))), ((cell_far (p := ⟨gb163, _, none⟩) NB162_163.out _).trans (((cell_far (p := ⟨gb163, _, none⟩) NB162_163.out _).trans (((cell_far (p := ⟨gb163, _, none⟩) NB162_163.out _).trans (hHeld.2.1)))))), ((cell_far (p := ⟨gb163, _, none⟩) NB162_163.out _).trans (((cell_far (p := ⟨gb163, _, none⟩) NB162_163.out _).trans (((cell_far (p := ⟨gb163, _, none⟩) NB162_163.out _).trans (hHeld.2.2))))))⟩ (fun hHeld => ?_)
 clear hK K
 refine done_ (done_of HT_.out (by kernel_rfl)) ?_
 try go_wp2
 refine bodyPost_ret (results_cell_row rfl _ _ gb163 31 #[.slice Ao3 l0_0.length co3, .slice Ao4 l0_1.length co4, .slice Ao9 t164.length co9] (0, 0) _ rfl (by (with_reducible repeat (first | refine blk_drewN ?_ _ | refine blk_drew ?_ | refine blk_alloc ?_ _)); refine blk_put (cs := #[.slice Ao3 l0_0.length co3, .slice Ao4 l0_1.length co4, .slice none 0 0]) ?_ 2 _ rfl; (with_reducible repeat (first | refine blk_drewN ?_ _ | refine blk_drew ?_ | refine blk_alloc ?_ _)); refine blk_put (cs := #[.slice Ao3 l0_0.length co3, .slice none 0 0, .slice none 0 0]) ?_ 1 _ rfl; (with_reducible repeat (first | refine blk_drewN ?_ _ | refine blk_drew ?_ | refine blk_alloc ?_ _)); refine blk_put (cs := #[.slice none 0 0, .slice none 0 0, .slice none 0 0]) ?_ 0 _ rfl; (with_reducible repeat (first | refine blk_drewN ?_ _ | refine blk_drew ?_ | refine blk_alloc ?_ _)); exact BK163.out) Try.underlying31 rfl (by kernel_rfl)) rfl ?_
 exact ⟨_, _, _, by first | rfl | (simp [errW_none, errW_some] <;> rfl) | (simp [*, errW_none, errW_some] <;> rfl), by (with_reducible repeat (first | apply Kd.R_alloc | apply Kd.R_drewN | apply Kd.R_drew)); exact Kd.R_mono (Kd.R_far (p := ⟨gb163, 2, none⟩) (Kd.R_far (p := ⟨gb163, 1, none⟩) (Kd.R_far (p := ⟨gb163, 0, none⟩) (Kd.R_types HO0_0.out BK163.out (by decide)) (fun _ hk => hk.2) (.slice Ao3 l0_0.length co3)) (fun _ hk => hk.2) (.slice Ao4 l0_1.length co4)) (fun _ hk => hk.2) (.slice Ao9 t164.length co9)) (fun _ hk => hk.1), by (with_reducible repeat (first | apply Kd.R_alloc | apply Kd.R_drewN | apply Kd.R_drew)); exact Kd.R_mono (Kd.R_far (p := ⟨gb163, 2, none⟩) (Kd.R_far (p := ⟨gb163, 1, none⟩) (Kd.R_far (p := ⟨gb163, 0, none⟩) (Kd.R_types HO0_1.out BK163.out (by decide)) (fun _ hk => hk.2) (.slice Ao3 l0_0.length co3)) (fun _ hk => hk.2) (.slice Ao4 l0_1.length co4)) (fun _ hk => hk.2) (.slice Ao9 t164.length co9)) (fun _ hk => hk.1), by (with_reducible repeat (first | apply Kd.R_alloc | apply Kd.R_drewN | apply Kd.R_drew)); exact Kd.R_mono (Kd.R_far (p := ⟨gb163, 2, none⟩) (Kd.R_far (p := ⟨gb163, 1, none⟩) (Kd.R_far (p := ⟨gb163, 0, none⟩) (Kd.R_types HO166.out BK163.out (by decide)) (fun _ hk => hk.2) (.slice Ao3 l0_0.length co3)) (fun _ hk => hk.2) (.slice Ao4 l0_1.length co4)) (fun _ hk => hk.2) (.slice Ao9 t164.length co9)) (fun _ hk => hk.1.1), by exact tH, by repeat (first | (with_reducible first | exact HK.out | apply Kept.alloc | apply Kept.drewN | apply Kept.drew | refine Kept.setCell ?_ (.inr GW162.out) _ | refine Kept.setCell ?_ (.inr GW163.out) _) | exact HK.out)⟩

end Go.Proofs.Ytcnjnollmamifaa.P
