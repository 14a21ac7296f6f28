/- The stubs of package run: set, Wrong, Legal. -/
import Derived.Test.YtcnjnollmamifaaPKinds
import Derived.Test.YtcnjnollmamifaaHMap
set_option linter.unusedVariables false
set_option linter.unusedSimpArgs false
namespace Go.Proofs.Ytcnjnollmamifaa.P
open Go.RowKit Go.Maps Go.Proofs.YtcnjnollmamifaaW.PrintWords Go.Proofs.YtcnjnollmamifaaW.PrintLast Go.Proofs.YtcnjnollmamifaaW.PrintMore Go.Proofs.YtcnjnollmamifaaH

def ndup : List Int → Nat
  | [] => 0
  | x :: r => if x ∈ r then ndup r else ndup r + 1
def setView (l : List Int) (x : Int) : Option Bool := if x ∈ l then some true else none
theorem ndup_le : ∀ l, ndup l ≤ l.length
  | [] => Nat.le_refl _
  | x :: r => by
    have := ndup_le r
    unfold ndup
    split <;> simp <;> omega
theorem ndup_snoc (x : Int) : ∀ l, ndup (l ++ [x]) = if x ∈ l then ndup l else ndup l + 1
  | [] => by simp [ndup]
  | y :: r => by
    have ih := ndup_snoc x r
    simp only [List.cons_append, ndup, List.mem_append, List.mem_singleton, List.mem_cons, ih]
    by_cases h1 : y ∈ r <;> by_cases h2 : x ∈ r <;> by_cases h3 : x = y <;> simp_all [eq_comm]
theorem ndup_eq : ∀ l, ndup l = l.length ↔ l.Nodup
  | [] => by simp [ndup]
  | x :: r => by
    have ih := ndup_eq r
    have := ndup_le r
    simp only [ndup, List.nodup_cons, List.length_cons]
    split
    · rename_i h
      constructor
      · intro; omega
      · intro h'; exact absurd h h'.1
    · rename_i h
      rw [Nat.add_right_cancel_iff, ih]
      simp [h]
theorem setView_snoc (l : List Int) (x : Int) (y : Int) : upd (setView l) x true y = setView (l ++ [x]) y := by
  simp only [upd, setView, List.mem_append, List.mem_singleton]
  by_cases h : y = x <;> simp [h]
theorem keyed3 : Keyed Try.prog 3 := int_keyed Try.underlying3
theorem key3 {a : Int} (h : iwf a) : keyOf Try.prog 3 (.int .i64 a) = some (ilit a) := keyOf_int_mk Try.underlying3 h
theorem isKey (x : Int) (h : iwf x) : WideAt.IsKeyLit (ilit x) := keyed3.key (key3 h)
theorem zeroB (w : World) : (zeroValue 4).run Try.prog w = .ok (.bool false) w := by kernel_rfl
theorem zeroI (w : World) : (zeroValue 3).run Try.prog w = .ok (.int .i64 0) w := by kernel_rfl
theorem take_succ_rd (l : List Int) (k : Nat) (h : k < l.length) : l.take (k + 1) = l.take k ++ [rd l k] := by
  rw [List.take_succ_eq_append_getElem h]
  simp [rd, h]

set_option maxHeartbeats 1000000 in
set_option maxRecDepth 100000 in
theorem run_set.calls (A : Option Addr) (c : Nat) (l : List Int) (w : World) (hr : Kd.C (Kd.int .i64) w A l.length l) (hc : l.length ≤ c) (hwf : ∀ x ∈ l, iwf x) (hlen : l.length ≤ 1099511627776) :
    Calls Try.prog 18 #[.slice A l.length c] w fun e w' => ∃ b D, e = .returned (.map (some b)) ∧ w.heap.size ≤ b ∧ w'.ownsMap Try.prog 3 (plainElem Try.prog 4) b l.length D ∧
      MView ilit iwf (fun y => (.lit (.bool y) : DU)) D (setView l) (ndup l) ∧ Below w.heap.size w w' := by
  have HR := Aside0.mk hr
  have HWF := Aside0.mk hwf
  clear hr hwf
  have hmm : ∀ (n : Int) (w : World), (Instr.makeMap 52 (some (.int .i64 n))).run Try.prog w = .ok (.map (some w.heap.size)) (w.alloc (.map #[] 0)) := fun n w => by rfl
  go_enter Try.func18, Try.ntmps18
  go_wp2
  go_loopw [11] (fun i wr => ∃ k : Nat, k ≤ l.length ∧ i = .int .i64 k ∧ Below w.heap.size w wr ∧ ∃ D, wr.ownsMap Try.prog 3 (plainElem Try.prog 4) w.heap.size k D ∧ MView ilit iwf (fun y => (.lit (.bool y) : DU)) D (setView (l.take k)) (ndup (l.take k)))
    (fun i _ => l.length - (intOf i).toNat)
  case atStart => exact ⟨0, Nat.zero_le _, rfl, (Below.refl _ _).alloc (Nat.le_refl _) _, _, World.ownsMap_made _ _ _ _, (MView.empty (klit := ilit) (wfk := iwf) (vd := fun y => (.lit (.bool y) : DU))).congr (fun x => by simp [setView])⟩
  case round =>
    obtain ⟨k, hk, rfl, hb, D, hown, hv⟩ := hrel
    by_cases hlt : k < l.length
    · obtain ⟨ad, rfl, hx⟩ := Kd.at_int HR.out k (by omega) (by omega)
      have hwk : iwf (rd l k) := HWF.out _ (by simp [rd, hlt])
      replace hx := (hb.cell (World.block_lt_of_cell? w _ hx)).trans hx
      rw [Int.toNat_natCast] at hx
      go_wp2_with (first
        | (at_mapUpdate; refine wpList_mapUpdate_own _ rfl _ _ _ 52 rfl 3 4 keyed3 Try.underlying52 (plainElem Try.prog 4) w.heap.size k D rfl hown (by unfold maxLen; omega) _ _ (ilit (rd l k)) rfl rfl (key3 hwk) _ [] (plainElem_bool Try.underlying4 true) ?_; intro w1 hown1 hgrow1)
        | go_in)
      go_roundw
      case rel =>
        refine ⟨k + 1, by omega, by go_num, hb.grown hgrow1 (by have := hb.size; omega) (fun j hj => by cases hj; exact Nat.le_refl _), _, hown1, ?_⟩
        rw [take_succ_rd l k hlt, ndup_snoc]
        have h1 := (hv.put ilit_inj isKey (rd l k) hwk true).congr (setView_snoc _ _)
        have e : (if (setView (l.take k) (rd l k)).isSome = true then ndup (l.take k) else ndup (l.take k) + 1) = if rd l k ∈ l.take k then ndup (l.take k) else ndup (l.take k) + 1 := by
          simp only [setView]
          by_cases h : rd l k ∈ l.take k <;> simp [h]
        rw [e] at h1
        exact h1
      case measure => simp [intOf]; omega
    · go_wp2
      go_ret
      have e : k = l.length := by omega
      subst e
      rw [List.take_length] at hv
      exact ⟨_, D, rfl, Nat.le_refl _, hown, hv, hb⟩

/-! ### Wrong -/
def wrongP (items : List S40) (from_ kept : List Int) : List Int → Int → (Int → Option Int) → Int × Bool
  | [], _, _ => (0, false)
  | i :: r, k, g => if i < 0 ∨ (items.length : Int) ≤ i then wrongP items from_ kept r (k + 1) g
    else if (rd_T40 items i).f2 = true then wrongP items from_ kept r (k + 1) (upd g (rd_T40 items i).f3 i)
    else if i ∈ kept ∧ rd from_ i ≠ (g (rd_T40 items i).f3).getD (-1) then (k, true)
    else wrongP items from_ kept r (k + 1) g
/-- What the stubs ask of what they are handed: sizes, numbers of 64 bits, and a list of origins that is long enough. -/
def runOk (items : List S40) (from_ l kept : List Int) : Prop :=
  items.length ≤ 1099511627776 ∧ l.length ≤ 1099511627776 ∧ kept.length ≤ 1099511627776 ∧ items.length ≤ from_.length ∧ (∀ x ∈ l, iwf x) ∧ (∀ x ∈ kept, iwf x) ∧ ∀ x ∈ items, iwf x.f3
instance (items : List S40) (from_ l kept : List Int) : Decidable (runOk items from_ l kept) := by unfold runOk; infer_instance
def run_Wrong.f (l0_0 : List ByteArray) (l0_1 : List S40) (l0_2 l1 l2 : List Int) : Option (Int × Bool) := if runOk l0_1 l0_2 l1 l2 then some (wrongP l0_1 l0_2 l2 l1 0 (fun _ => none)) else none
theorem Aside0.app {p q : Prop} (h : Aside0 (p → q)) (k : p) : q := h.out k
set_option maxHeartbeats 4000000 in
set_option maxRecDepth 100000 in
theorem run_Wrong.calls (A0_0 : Option Addr) (c0_0 : Nat) (l0_0 : List ByteArray) (A0_1 : Option Addr) (c0_1 : Nat) (l0_1 : List (S40)) (A0_2 : Option Addr) (c0_2 : Nat) (l0_2 : List Int) (A1 : Option Addr) (c1 : Nat) (l1 : List Int) (A2 : Option Addr) (c2 : Nat) (l2 : List Int) (r1 : Int) (r2 : Bool) (w : World)
    (hr0_0 : Kd.C Kd.string w A0_0 l0_0.length l0_0) (hc0_0 : l0_0.length ≤ c0_0) (hr0_1 : Kd.C k40 w A0_1 l0_1.length l0_1) (hc0_1 : l0_1.length ≤ c0_1) (hr0_2 : Kd.C (Kd.int .i64) w A0_2 l0_2.length l0_2) (hc0_2 : l0_2.length ≤ c0_2)
    (hr1 : Kd.C (Kd.int .i64) w A1 l1.length l1) (hc1 : l1.length ≤ c1) (hr2 : Kd.C (Kd.int .i64) w A2 l2.length l2) (hc2 : l2.length ≤ c2) (h : run_Wrong.f l0_0 l0_1 l0_2 l1 l2 = some (r1, r2)) :
    Calls Try.prog 9 #[.agg #[.slice A0_0 l0_0.length c0_0, .slice A0_1 l0_1.length c0_1, .slice A0_2 l0_2.length c0_2], .slice A1 l1.length c1, .slice A2 l2.length c2] w fun e w' => e = .returned (.tuple #[.int .i64 r1, .bool r2]) ∧ Below w.heap.size w w' := by
  unfold run_Wrong.f at h
  by_cases hok : runOk l0_1 l0_2 l1 l2
  · rw [if_pos hok, Option.some.injEq] at h
    have hu31 := Try.underlying31
    have hu40 := Try.underlying40
    obtain ⟨hn1, hn2, hn3, hn4, hw1, hw2, hw3⟩ := hok
    have HI := Aside0.mk hr0_1
    have HF := Aside0.mk hr0_2
    have HL := Aside0.mk hr1
    have HK := Aside0.mk hr2
    have HW1 := Aside0.mk hw1
    have HW3 := Aside0.mk hw3
    have HW2 := Aside0.mk hw2
    have HR := Aside0.mk h
    clear h hr0_0 hr0_1 hr0_2 hr1 hr2 hw1 hw2 hw3
    have hmm := @run_makeMap Try.prog
    have HB := Aside0.mk (Below.refl w.heap.size w)
    go_enter Try.func9, Try.ntmps9
    go_wp2_with (first
      | ((with_reducible refine gate_dst (N := 3) rfl ?_); refine box_event ?hg (N := 3) ?hd (cs := #[.slice A0_0 l0_0.length c0_0, .slice A0_1 l0_1.length c0_1, .slice A0_2 l0_2.length c0_2]) (t := 31) ?hr ?_; (case hd => rfl); (case hg => rfl); (case hr => first | (go_simp; done) | (go_simp; rfl)); intro gb hg w1 hbox hb; have HB1 := Aside0.mk hb; have BK := Aside0.mk hbox; have HG := Aside0.mk hg; clear hb hbox hg HB)
      | (go_at_call 18; refine (run_set.calls _ _ l2 _ (Kd.C_below HK.out HB1.out) hc2 HW2.out hn3).mono ?_; rintro e w2 ⟨b, D, rfl, hle, hown, hv, hb2⟩; have HLE := Aside0.mk hle; have HO := Aside0.mk hown; have HV := Aside0.mk hv; have HB2 := Aside0.mk hb2; clear hle hown hv hb2))
    have HBM := Aside0.mk (World.ownsMap_made (H := Unit) w2 Try.prog 3 (plainElem Try.prog 3))
    have HBB := Aside0.mk (below_alloc (below_step HB1.out HB2.out) (.map #[] 0))
    obtain ⟨bm, hbm⟩ : ∃ bm, bm = w2.heap.size := ⟨_, rfl⟩
    have HBE := Aside0.mk hbm
    have BK2 := Aside0.mk (blk_alloc (blk_below BK.out HB2.out) (.map #[] 0))
    have HO2 := Aside0.mk (HO.out.alloc (.map #[] 0))
    rw [← hbm] at HBM
    rw [← hbm]
    have HLB := Aside0.mk (show w.heap.size ≤ b from Nat.le_trans HB1.out.size HLE.out)
    have HLM := Aside0.mk (show w.heap.size ≤ bm from by rw [hbm]; exact Nat.le_trans HB1.out.size HB2.out.size)
    have HNE := Aside0.mk (show b ≠ bm from by have := HO.out.lt; omega)
    have HGE0 := Aside0.mk (show gb < bm from by have := blk_lt (blk_below BK.out HB2.out); omega)
    clear HB1 BK HB2 HO hbm
    go_loopw [20] (fun i wr => ∃ k : Nat, k ≤ l1.length ∧ i = .int .i64 k ∧ Aside0 (Below w.heap.size w wr) ∧ Aside0 (wr.heap[gb]? = some (.cells #[.slice A0_0 l0_0.length c0_0, .slice A0_1 l0_1.length c0_1, .slice A0_2 l0_2.length c0_2] 31 (0, 0))) ∧ Aside0 (wr.ownsMap Try.prog 3 (plainElem Try.prog 4) b l2.length D) ∧
        ∃ Dg g cg, Aside0 (wr.ownsMap Try.prog 3 (plainElem Try.prog 3) bm k Dg) ∧ Aside0 (MView ilit iwf (fun y => (.lit (.int .i64 y) : DU)) Dg g cg) ∧ Aside0 (wrongP l0_1 l0_2 l2 (l1.drop k) k g = (r1, r2)))
      (fun i _ => l1.length - (intOf i).toNat)
    case atStart => exact ⟨0, Nat.zero_le _, rfl, HBB, BK2, HO2, _, _, _, HBM, ⟨MView.empty⟩, HR⟩
    case round =>
      clear HBB BK2 HO2 HBM HR HBE HLE
      obtain ⟨k, hk, rfl, HB, BK, HO, Dg, g, cg, HM, HG2, HR⟩ := hrel
      by_cases hlt : k < l1.length
      · obtain ⟨ad, rfl, hx⟩ := Kd.at_int HL.out k (by omega) (by omega)
        replace hx := (HB.out.cell (World.block_lt_of_cell? w _ hx)).trans hx
        rw [Int.toNat_natCast] at hx
        have hwx : iwf (rd l1 k) := HW1.out _ (by simp [rd, hlt])
        have HR' := HR.out
        rw [show l1.drop k = rd l1 k :: l1.drop (k + 1) from by rw [List.drop_eq_getElem_cons hlt]; simp [rd, hlt]] at HR'
        obtain ⟨x, hxe⟩ : ∃ x, x = rd l1 k := ⟨_, rfl⟩
        rw [← hxe] at hx hwx HR'
        have HWX := Aside0.mk hwx
        have hz0 : wr.cell? ⟨gb, 0, none⟩ = some (.slice A0_0 l0_0.length c0_0) := (blk_cell BK.out 0).trans rfl
        have hz1 : wr.cell? ⟨gb, 1, none⟩ = some (.slice A0_1 l0_1.length c0_1) := (blk_cell BK.out 1).trans rfl
        have hz2 : wr.cell? ⟨gb, 2, none⟩ = some (.slice A0_2 l0_2.length c0_2) := (blk_cell BK.out 2).trans rfl
        clear hxe HR hwx
        simp only [wrongP] at HR'
        by_cases c1 : x < 0 ∨ (l0_1.length : Int) ≤ x
        · rw [if_pos c1] at HR'
          have HR := Aside0.mk HR'
          clear HR'
          by_cases c2 : x < 0
          · have c2b : decide (x < 0) = true := decide_eq_true c2
            clear c1 c2
            go_wp2
            go_roundw
            case rel => exact ⟨k + 1, by omega, by go_num, HB, BK, HO, Dg, g, cg, ⟨HM.out.mono (by omega)⟩, HG2, HR⟩
            case measure => simp [intOf]; omega
          · have c3 : (l0_1.length : Int) ≤ x := by omega
            have c2b : decide (x < 0) = false := decide_eq_false c2
            have c3b : decide ((l0_1.length : Int) ≤ x) = true := decide_eq_true c3
            clear c1 c2 c3
            go_wp2
            go_roundw
            case rel => exact ⟨k + 1, by omega, by go_num, HB, BK, HO, Dg, g, cg, ⟨HM.out.mono (by omega)⟩, HG2, HR⟩
            case measure => simp [intOf]; omega
        · rw [if_neg c1] at HR'
          have HR := Aside0.mk HR'
          clear HR'
          have hx0 : 0 ≤ x := by omega
          have hx1 : x < (l0_1.length : Int) := by omega
          have hx2 : x < (l0_2.length : Int) := by omega
          clear c1
          obtain ⟨adi, ei, hy0, hy1, hy2, hy3, hy4⟩ := at_T40 HI.out x hx0 hx1
          cases ei
          replace hy0 := (HB.out.cell (World.block_lt_of_cell? w _ hy0)).trans hy0
          replace hy1 := (HB.out.cell (World.block_lt_of_cell? w _ hy1)).trans hy1
          replace hy2 := (HB.out.cell (World.block_lt_of_cell? w _ hy2)).trans hy2
          replace hy3 := (HB.out.cell (World.block_lt_of_cell? w _ hy3)).trans hy3
          replace hy4 := (HB.out.cell (World.block_lt_of_cell? w _ hy4)).trans hy4
          obtain ⟨adf, ef, hyf⟩ := Kd.at_int HF.out x hx0 hx2
          cases ef
          have HYF := Aside0.mk hyf
          clear hyf
          have hwv : iwf (rd_T40 l0_1 x).f3 := HW3.out _ (by rw [rd_T40, List.getD_eq_getElem?_getD, List.getElem?_eq_getElem (by omega)]; exact List.getElem_mem _)
          obtain ⟨v, hve⟩ : ∃ v, v = (rd_T40 l0_1 x).f3 := ⟨_, rfl⟩
          obtain ⟨bw, hbe⟩ : ∃ v, v = (rd_T40 l0_1 x).f2 := ⟨_, rfl⟩
          rw [← hve] at hy3 hwv
          rw [← hbe] at hy2
          have HR' := HR.out
          rw [← hve, ← hbe] at HR'
          have HWV := Aside0.mk hwv
          obtain ⟨fr, hfe⟩ : ∃ v, v = rd l0_2 x := ⟨_, rfl⟩
          rw [← hfe] at HR' HYF
          clear hve hbe hwv HR hfe
          have c2b : decide (x < 0) = false := decide_eq_false (by omega)
          have c3b : decide ((l0_1.length : Int) ≤ x) = false := decide_eq_false (by omega)
          have p1 : (0 ≤ x) = True := eq_true hx0
          have p2 : (x < (l0_1.length : Int)) = True := eq_true hx1
          have p3 : (x < (l0_2.length : Int)) = True := eq_true hx2
          clear hx0 hx1 hx2
          cases bw with
          | true =>
            rw [if_pos rfl] at HR'
            have HR := Aside0.mk HR'
            clear HR'
            go_wp2_with (at_mapUpdate; refine wpList_mapUpdate_own _ rfl _ _ _ 54 rfl 3 3 keyed3 Try.underlying54 (plainElem Try.prog 3) bm k Dg rfl (HM.out.alloc _) (by unfold maxLen; omega) _ _ (ilit v) rfl rfl (key3 HWV.out) _ [] (plainElem_int Try.underlying3 HWX.out) ?_; intro w6 hown6 hgrow6; have HM6 := Aside0.mk hown6; have HG6 := Aside0.mk hgrow6; clear hown6 hgrow6)
            go_roundw
            case rel => exact ⟨k + 1, by omega, by go_num, ⟨Below.grown (below_alloc HB.out _) HG6.out (by have h1 := HB.out.size; simp; omega) (fun j hj => by cases hj; exact HLM.out)⟩, ⟨blk_grown (blk_alloc BK.out _) HG6.out (by have := HGE0.out; simp; omega)⟩, ⟨World.ownsMap.kept (HO.out.alloc _) HG6.out (by simpa using HNE.out)⟩, _, _, _, HM6, ⟨HG2.out.put ilit_inj isKey v HWV.out x⟩, HR⟩
            case measure => simp [intOf]; omega
          | false =>
            rw [if_neg (by simp)] at HR'
            have HYX := Aside0.mk ((HB.out.cell (World.block_lt_of_cell? w _ HYF.out)).trans HYF.out)
            have hyf : ∀ o, (wr.alloc o).cell? (adf.add x.toNat) = some (.int .i64 fr) := fun o => ((below_alloc (Below.refl _ _) o).cell (World.block_lt_of_cell? wr _ HYX.out)).trans HYX.out
            have hzf : ∀ o, (wr.alloc o).cell? ⟨gb, 2, none⟩ = some (.slice (some adf) l0_2.length c0_2) := fun o => (blk_cell (blk_alloc BK.out o) 2).trans rfl
            cases hgv : g v with
            | none =>
              rw [hgv] at HR'
              have HGV := Aside0.mk hgv
              clear hgv
              simp only [Option.getD_none] at HR'
              by_cases hin : x ∈ l2
              · have HGB := Aside0.mk (show setView l2 x = some true from by simp [setView, hin])
                by_cases heq : fr = (-1)
                · rw [if_neg (by rw [heq]; simp)] at HR'
                  have HR := Aside0.mk HR'
                  have hb1 : (fr == (-1)) = true := beq_iff_eq.mpr heq
                  have hb2 : (fr != (-1)) = false := bne_eq_false_iff_eq.mpr heq
                  clear HR' heq hin
                  go_wp2_with (first | (at_lookup; refine wp_look_int_ok rfl _ _ 54 rfl 3 3 .i64 keyed3 Try.underlying54 Try.underlying3 (zeroI _) bm k Dg rfl (HM.out.alloc _) HG2.out v HWV.out (none) HGV.out _ rfl (key3 HWV.out) ?_) | (at_lookup; refine wp_look_bool rfl _ _ 52 rfl 3 4 keyed3 Try.underlying52 Try.underlying4 (zeroB _) b l2.length D rfl (HO.out.alloc _) HV.out x HWX.out (some true) HGB.out _ rfl (key3 HWX.out) ?_))
                  go_roundw
                  case rel => exact ⟨k + 1, by omega, by go_num, ⟨below_alloc HB.out _⟩, ⟨blk_alloc BK.out _⟩, ⟨HO.out.alloc _⟩, Dg, g, cg, ⟨(HM.out.alloc _).mono (Nat.le_succ _)⟩, HG2, HR⟩
                  case measure => simp [intOf]; omega
                · rw [if_pos ⟨hin, by simpa using heq⟩] at HR'
                  have HR := Aside0.mk HR'
                  have hb1 : (fr == (-1)) = false := beq_eq_false_iff_ne.mpr heq
                  have hb2 : (fr != (-1)) = true := bne_iff_ne.mpr heq
                  clear HR' heq hin
                  go_wp2_with (first | (at_lookup; refine wp_look_int_ok rfl _ _ 54 rfl 3 3 .i64 keyed3 Try.underlying54 Try.underlying3 (zeroI _) bm k Dg rfl (HM.out.alloc _) HG2.out v HWV.out (none) HGV.out _ rfl (key3 HWV.out) ?_) | (at_lookup; refine wp_look_bool rfl _ _ 52 rfl 3 4 keyed3 Try.underlying52 Try.underlying4 (zeroB _) b l2.length D rfl (HO.out.alloc _) HV.out x HWX.out (some true) HGB.out _ rfl (key3 HWX.out) ?_))
                  have HR' := HR.out
                  simp only [Prod.mk.injEq] at HR'
                  obtain ⟨rfl, rfl⟩ := HR'
                  go_ret2
                  exact ⟨rfl, below_alloc HB.out _⟩
              · have HGB := Aside0.mk (show setView l2 x = none from by simp [setView, hin])
                rw [if_neg (fun h => hin h.1)] at HR'
                have HR := Aside0.mk HR'
                clear HR' hin
                go_wp2_with (first | (at_lookup; refine wp_look_int_ok rfl _ _ 54 rfl 3 3 .i64 keyed3 Try.underlying54 Try.underlying3 (zeroI _) bm k Dg rfl (HM.out.alloc _) HG2.out v HWV.out (none) HGV.out _ rfl (key3 HWV.out) ?_) | (at_lookup; refine wp_look_bool rfl _ _ 52 rfl 3 4 keyed3 Try.underlying52 Try.underlying4 (zeroB _) b l2.length D rfl (HO.out.alloc _) HV.out x HWX.out (none) HGB.out _ rfl (key3 HWX.out) ?_))
                go_roundw
                case rel => exact ⟨k + 1, by omega, by go_num, ⟨below_alloc HB.out _⟩, ⟨blk_alloc BK.out _⟩, ⟨HO.out.alloc _⟩, Dg, g, cg, ⟨(HM.out.alloc _).mono (Nat.le_succ _)⟩, HG2, HR⟩
                case measure => simp [intOf]; omega
            | some u =>
              rw [hgv] at HR'
              have HGV := Aside0.mk hgv
              clear hgv
              simp only [Option.getD_some] at HR'
              by_cases hin : x ∈ l2
              · have HGB := Aside0.mk (show setView l2 x = some true from by simp [setView, hin])
                by_cases heq : fr = u
                · rw [if_neg (by rw [heq]; simp)] at HR'
                  have HR := Aside0.mk HR'
                  have hb1 : (fr == u) = true := beq_iff_eq.mpr heq
                  have hb2 : (fr != u) = false := bne_eq_false_iff_eq.mpr heq
                  clear HR' heq hin
                  go_wp2_with (first | (at_lookup; refine wp_look_int_ok rfl _ _ 54 rfl 3 3 .i64 keyed3 Try.underlying54 Try.underlying3 (zeroI _) bm k Dg rfl (HM.out.alloc _) HG2.out v HWV.out (some u) HGV.out _ rfl (key3 HWV.out) ?_) | (at_lookup; refine wp_look_bool rfl _ _ 52 rfl 3 4 keyed3 Try.underlying52 Try.underlying4 (zeroB _) b l2.length D rfl (HO.out.alloc _) HV.out x HWX.out (some true) HGB.out _ rfl (key3 HWX.out) ?_))
                  go_roundw
                  case rel => exact ⟨k + 1, by omega, by go_num, ⟨below_alloc HB.out _⟩, ⟨blk_alloc BK.out _⟩, ⟨HO.out.alloc _⟩, Dg, g, cg, ⟨(HM.out.alloc _).mono (Nat.le_succ _)⟩, HG2, HR⟩
                  case measure => simp [intOf]; omega
                · rw [if_pos ⟨hin, by simpa using heq⟩] at HR'
                  have HR := Aside0.mk HR'
                  have hb1 : (fr == u) = false := beq_eq_false_iff_ne.mpr heq
                  have hb2 : (fr != u) = true := bne_iff_ne.mpr heq
                  clear HR' heq hin
                  go_wp2_with (first | (at_lookup; refine wp_look_int_ok rfl _ _ 54 rfl 3 3 .i64 keyed3 Try.underlying54 Try.underlying3 (zeroI _) bm k Dg rfl (HM.out.alloc _) HG2.out v HWV.out (some u) HGV.out _ rfl (key3 HWV.out) ?_) | (at_lookup; refine wp_look_bool rfl _ _ 52 rfl 3 4 keyed3 Try.underlying52 Try.underlying4 (zeroB _) b l2.length D rfl (HO.out.alloc _) HV.out x HWX.out (some true) HGB.out _ rfl (key3 HWX.out) ?_))
                  have HR' := HR.out
                  simp only [Prod.mk.injEq] at HR'
                  obtain ⟨rfl, rfl⟩ := HR'
                  go_ret2
                  exact ⟨rfl, below_alloc HB.out _⟩
              · have HGB := Aside0.mk (show setView l2 x = none from by simp [setView, hin])
                rw [if_neg (fun h => hin h.1)] at HR'
                have HR := Aside0.mk HR'
                clear HR' hin
                go_wp2_with (first | (at_lookup; refine wp_look_int_ok rfl _ _ 54 rfl 3 3 .i64 keyed3 Try.underlying54 Try.underlying3 (zeroI _) bm k Dg rfl (HM.out.alloc _) HG2.out v HWV.out (some u) HGV.out _ rfl (key3 HWV.out) ?_) | (at_lookup; refine wp_look_bool rfl _ _ 52 rfl 3 4 keyed3 Try.underlying52 Try.underlying4 (zeroB _) b l2.length D rfl (HO.out.alloc _) HV.out x HWX.out (none) HGB.out _ rfl (key3 HWX.out) ?_))
                go_roundw
                case rel => exact ⟨k + 1, by omega, by go_num, ⟨below_alloc HB.out _⟩, ⟨blk_alloc BK.out _⟩, ⟨HO.out.alloc _⟩, Dg, g, cg, ⟨(HM.out.alloc _).mono (Nat.le_succ _)⟩, HG2, HR⟩
                case measure => simp [intOf]; omega
      · go_wp2
        have e : k = l1.length := by omega
        subst e
        have HR' := HR.out
        rw [List.drop_length] at HR'
        simp only [wrongP, Prod.mk.injEq] at HR'
        obtain ⟨rfl, rfl⟩ := HR'
        go_ret2
        exact ⟨rfl, HB.out⟩
  · rw [if_neg hok] at h
    cases h

/-! ### Legal -/
/-- What legal means. -/
def legalP (items : List S40) (from_ l kept : List Int) : Prop := l.Nodup ∧ (∀ i ∈ l, 0 ≤ i ∧ i < items.length) ∧ (∀ i ∈ kept, i ∈ l) ∧ (wrongP items from_ kept l 0 (fun _ => none)).2 = false
instance (items : List S40) (from_ l kept : List Int) : Decidable (legalP items from_ l kept) := by unfold legalP; infer_instance
def run_Legal.f (l0_0 : List ByteArray) (l0_1 : List S40) (l0_2 l1 l2 : List Int) : Option Bool := if runOk l0_1 l0_2 l1 l2 then some (decide (legalP l0_1 l0_2 l1 l2)) else none
set_option maxHeartbeats 4000000 in
set_option maxRecDepth 100000 in
theorem run_Legal.calls (A0_0 : Option Addr) (c0_0 : Nat) (l0_0 : List ByteArray) (A0_1 : Option Addr) (c0_1 : Nat) (l0_1 : List (S40)) (A0_2 : Option Addr) (c0_2 : Nat) (l0_2 : List Int) (A1 : Option Addr) (c1 : Nat) (l1 : List Int) (A2 : Option Addr) (c2 : Nat) (l2 : List Int) (r : Bool) (w : World)
    (hr0_0 : Kd.C Kd.string w A0_0 l0_0.length l0_0) (hc0_0 : l0_0.length ≤ c0_0) (hr0_1 : Kd.C k40 w A0_1 l0_1.length l0_1) (hc0_1 : l0_1.length ≤ c0_1) (hr0_2 : Kd.C (Kd.int .i64) w A0_2 l0_2.length l0_2) (hc0_2 : l0_2.length ≤ c0_2)
    (hr1 : Kd.C (Kd.int .i64) w A1 l1.length l1) (hc1 : l1.length ≤ c1) (hr2 : Kd.C (Kd.int .i64) w A2 l2.length l2) (hc2 : l2.length ≤ c2) (h : run_Legal.f l0_0 l0_1 l0_2 l1 l2 = some r) :
    Calls Try.prog 11 #[.agg #[.slice A0_0 l0_0.length c0_0, .slice A0_1 l0_1.length c0_1, .slice A0_2 l0_2.length c0_2], .slice A1 l1.length c1, .slice A2 l2.length c2] w fun e w' => e = .returned (.bool r) ∧ Below w.heap.size w w' := by
  unfold run_Legal.f at h
  by_cases hok : runOk l0_1 l0_2 l1 l2
  · rw [if_pos hok, Option.some.injEq] at h
    have HOK := Aside0.mk hok
    have hu31 := Try.underlying31
    obtain ⟨hn1, hn2, hn3, hn4, hw1, hw2, hw3⟩ := hok
    have HV0 := Aside0.mk hr0_0
    have HI := Aside0.mk hr0_1
    have HF := Aside0.mk hr0_2
    have HL := Aside0.mk hr1
    have HK := Aside0.mk hr2
    have HW1 := Aside0.mk hw1
    have HW3 := Aside0.mk hw3
    have HW2 := Aside0.mk hw2
    have HR := Aside0.mk h
    clear h hr0_0 hr0_1 hr0_2 hr1 hr2 hw1 hw2 hw3
    have HB := Aside0.mk (Below.refl w.heap.size w)
    obtain ⟨c, hc⟩ : ∃ c : Nat, c = ndup l1 := ⟨_, rfl⟩
    have HC := Aside0.mk hc
    have HND := Aside0.mk (show c = l1.length ↔ l1.Nodup from by rw [hc]; exact ndup_eq l1)
    clear hc
    by_cases hcl : c = l1.length
    · subst hcl
      have HN := Aside0.mk (HND.out.1 rfl)
      clear HND
      go_enter Try.func11, Try.ntmps11
      go_wp2_with (first
        | ((with_reducible refine gate_dst (N := 3) rfl ?_); refine box_event ?hg (N := 3) ?hd (cs := #[.slice A0_0 l0_0.length c0_0, .slice A0_1 l0_1.length c0_1, .slice A0_2 l0_2.length c0_2]) (t := 31) ?hr ?_; (case hd => rfl); (case hg => rfl); (case hr => first | (go_simp; done) | (go_simp; rfl)); intro gb hg w1 hbox hb; have HB1 := Aside0.mk hb; have BK1 := Aside0.mk hbox; have HG := Aside0.mk hg; clear hb hbox hg HB)
        | (go_at_call 18; refine (run_set.calls _ _ l1 _ (Kd.C_below HL.out HB1.out) hc1 HW1.out hn2).mono ?_; rintro e w2 ⟨b, D, rfl, hle, hown, hv, hb2⟩; have HLE := Aside0.mk hle; have HO2 := Aside0.mk hown; have HV := Aside0.mk hv; have HB2 := Aside0.mk (below_step HB1.out hb2); have BK2 := Aside0.mk (blk_below BK1.out hb2); clear hle hown hv hb2)
        | ((with_reducible refine gate_builtin (b := .len) (xs := #[.tmp 15]) rfl ?_); refine wp_len_map rfl _ 52 rfl 3 4 Try.underlying52 b l1.length D rfl HO2.out l1.length (HV.out.size.trans HC.out.symm) ?_)
        | ((with_reducible refine gate_ (Op.range 52 (.tmp 20)) rfl ?_); refine wpList_range_own w2 rfl _ 52 rfl 3 4 keyed3 Try.underlying52 _ b l1.length D rfl HO2.out ?_; intro w3 hrg3 hg3 hsz3; have HRG3 := Aside0.mk hrg3; have HG3 := Aside0.mk hg3; clear hrg3 hg3 hsz3))
      go_frame
      have HB3 := Aside0.mk (Below.grown HB2.out HG3.out HB2.out.size (fun j hj => by cases hj))
      have BK3 := Aside0.mk (blk_grown BK2.out HG3.out (by simp))
      have HLR := Aside0.mk (show w.heap.size ≤ w2.heap.size from HB2.out.size)
      obtain ⟨br, hbr⟩ : ∃ br, br = w2.heap.size := ⟨_, rfl⟩
      rw [← hbr] at HRG3 HLR
      rw [← hbr]
      have HGR := Aside0.mk (show gb < br from by rw [hbr]; exact blk_lt BK2.out)
      have HST := Aside0.mk (show ∀ kl, Maps.has D kl = true → Maps.has D kl = true from fun _ h => h)
      have HST2 := Aside0.mk (show ∀ x ∈ l1, Maps.has D (ilit x) = true ∨ (0 ≤ x ∧ x < (l0_1.length : Int)) from fun x hx => .inl (by rw [HV.out.has_eq x (HW1.out x hx)]; simp [setView, hx]))
      clear hbr HB1 BK1 HLE HO2 HB2 BK2 HG3
      go_loopw [6] (fun _ wr => ∃ left cnt, Aside0 (wr.ranges Try.prog 3 (plainElem Try.prog 4) b br l1.length D left cnt) ∧ Aside0 (Below w.heap.size w wr) ∧ Aside0 (wr.heap[gb]? = some (.cells #[.slice A0_0 l0_0.length c0_0, .slice A0_1 l0_1.length c0_1, .slice A0_2 l0_2.length c0_2] 31 (0, 0))) ∧
          Aside0 (∀ kl, left kl = true → Maps.has D kl = true) ∧ Aside0 (∀ x ∈ l1, left (ilit x) = true ∨ (0 ≤ x ∧ x < (l0_1.length : Int))))
        (fun _ wr => wr.rangeLeft b br)
      case atStart => exact ⟨_, _, HRG3, HB3, BK3, HST, HST2⟩
      case round =>
        clear HRG3 HB3 BK3 HST HST2
        obtain ⟨left, cnt, HRG, HB, BK, HL1, HL2⟩ := hrel
        go_wp2_with (at_next; refine wpList_next_ranges _ rfl _ rfl 3 keyed3 (plainElem Try.prog 4) (Value.int .i64) Value.bool (fun key kl hk => (keyOf_int_inv Try.underlying3 hk).elim fun x hx => ⟨x, hx.1⟩) (fun v y hv => (bool_inv Try.underlying4 hv).elim fun x hx => ⟨x, hx.1⟩) b br l1.length D left cnt rfl HRG.out ?_ ?_; all_goals (first | (intro (h00 : cnt = 0) hl0; have HL0 := Aside0.mk hl0; clear h00 hl0) | (intro x y kl z w4 cnt4 hkey hleft hv4 hat4 hrg4 hlt4 hg4 hsz4 hen4; have HKEY := Aside0.mk hkey; have HLEFT := Aside0.mk hleft; have HRG4 := Aside0.mk hrg4; have HLT4 := Aside0.mk hlt4; have HG4 := Aside0.mk hg4; have BK4 := Aside0.mk (blk_grown BK.out hg4 (by have := HGR.out; simp; omega)); have hz1 : w4.cell? ⟨gb, 1, none⟩ = some (.slice A0_1 l0_1.length c0_1) := (blk_cell BK4.out 1).trans rfl; clear hkey hleft hv4 hat4 hrg4 hlt4 hg4 hsz4)))
        · have hl0 := HL0.out
          have HIN := Aside0.mk (show ∀ x ∈ l1, 0 ≤ x ∧ x < (l0_1.length : Int) from fun x hx => (HL2.out x hx).resolve_left (by rw [hl0]; simp))
          have HO := Aside0.mk HRG.out.owns
          clear hl0 HL0 HRG HL1 HL2
          go_wp2
          have HS0 := Aside0.mk (show ∀ x ∈ l2.take 0, x ∈ l1 from by simp)
          go_loop [37] (fun i => ∃ k : Nat, k ≤ l2.length ∧ i = .int .i64 k ∧ Aside0 (∀ x ∈ l2.take k, x ∈ l1)) (fun i => l2.length - (intOf i).toNat)
          case atStart => exact ⟨0, Nat.zero_le _, rfl, HS0⟩
          case round =>
            clear HS0
            obtain ⟨k, hk, rfl, HS⟩ := hrel
            by_cases hlt : k < l2.length
            · obtain ⟨ad, rfl, hx⟩ := Kd.at_int HK.out k (by omega) (by omega)
              replace hx := (HB.out.cell (World.block_lt_of_cell? w _ hx)).trans hx
              rw [Int.toNat_natCast] at hx
              have HWX := Aside0.mk (HW2.out (rd l2 k) (by simp [rd, hlt]))
              have HX2 := Aside0.mk (show rd l2 k ∈ l2 from by simp [rd, hlt])
              have HS2 := Aside0.mk (take_succ_rd l2 k hlt)
              obtain ⟨x, hxe⟩ : ∃ x, x = rd l2 k := ⟨_, rfl⟩
              rw [← hxe] at hx HWX HX2 HS2
              clear hxe
              by_cases hin : x ∈ l1
              · have HGB := Aside0.mk (show setView l1 x = some true from by simp [setView, hin])
                have HS3 := Aside0.mk (show ∀ y ∈ l2.take (k + 1), y ∈ l1 from by
                  rw [HS2.out]
                  intro y hy
                  rcases List.mem_append.1 hy with h | h
                  · exact HS.out y h
                  · rw [List.mem_singleton.1 h]; exact hin)
                clear hin HS2 HS HX2
                go_wp2_with (at_lookup; refine wp_look_bool rfl _ _ 52 rfl 3 4 keyed3 Try.underlying52 Try.underlying4 (zeroB _) b l1.length D rfl HO.out HV.out x HWX.out (some true) HGB.out _ rfl (key3 HWX.out) ?_)
                go_round
                case rel => exact ⟨k + 1, by omega, by go_num, HS3⟩
                case measure => simp [intOf]; omega
              · have HGB := Aside0.mk (show setView l1 x = none from by simp [setView, hin])
                have e : r = false := by
                  rw [← HR.out]
                  exact decide_eq_false (fun hl => hin (hl.2.2.1 x HX2.out))
                subst e
                clear hin HS2 HS HX2
                go_wp2_with (at_lookup; refine wp_look_bool rfl _ _ 52 rfl 3 4 keyed3 Try.underlying52 Try.underlying4 (zeroB _) b l1.length D rfl HO.out HV.out x HWX.out none HGB.out _ rfl (key3 HWX.out) ?_)
                go_ret
                exact ⟨rfl, HB.out⟩
            · have e : k = l2.length := by omega
              subst e
              rw [List.take_length] at HS
              have hz0 : wr.cell? ⟨gb, 0, none⟩ = some (.slice A0_0 l0_0.length c0_0) := (blk_cell BK.out 0).trans rfl
              have hz1 : wr.cell? ⟨gb, 1, none⟩ = some (.slice A0_1 l0_1.length c0_1) := (blk_cell BK.out 1).trans rfl
              have hz2 : wr.cell? ⟨gb, 2, none⟩ = some (.slice A0_2 l0_2.length c0_2) := (blk_cell BK.out 2).trans rfl
              obtain ⟨rr1, rr2, hrr⟩ : ∃ rr1 rr2, (rr1, rr2) = wrongP l0_1 l0_2 l2 l1 0 (fun _ => none) := ⟨_, _, rfl⟩
              have HW := Aside0.mk (show run_Wrong.f l0_0 l0_1 l0_2 l1 l2 = some (rr1, rr2) from by rw [hrr]; unfold run_Wrong.f; rw [if_pos HOK.out])
              have HRR := Aside0.mk (show r = !rr2 from by
                rw [← HR.out, Bool.eq_iff_iff, decide_eq_true_iff]
                unfold legalP
                rw [← hrr]
                simp only [Bool.not_eq_true']
                exact ⟨fun h => h.2.2.2, fun h => ⟨HN.out, HIN.out, HS.out, h⟩⟩)
              clear hrr HR
              go_wp2_with (go_at_call 9; refine (run_Wrong.calls _ _ l0_0 _ _ l0_1 _ _ l0_2 _ _ l1 _ _ l2 rr1 rr2 _ (Kd.C_below HV0.out HB.out) hc0_0 (Kd.C_below HI.out HB.out) hc0_1 (Kd.C_below HF.out HB.out) hc0_2 (Kd.C_below HL.out HB.out) hc1 (Kd.C_below HK.out HB.out) hc2 HW.out).mono ?_; rintro e w5 ⟨rfl, hb5⟩; have HB5 := Aside0.mk (below_step HB.out hb5); clear hb5)
              go_ret
              exact ⟨by rw [HRR.out]; rfl, HB5.out⟩
        all_goals
          obtain ⟨x', hx', hkl, hwx⟩ := keyOf_int_inv Try.underlying3 HKEY.out
          injection hx' with _ hx'
          subst hx'
          subst hkl
          have HB4 := Aside0.mk (Below.grown HB.out HG4.out HB.out.size (fun j hj => by cases hj; exact HLR.out))
          have HX1 := Aside0.mk (show x ∈ l1 from by
            have h1 := HL1.out _ HLEFT.out
            rw [show Lit.int .i64 x = ilit x from rfl, HV.out.has_eq x hwx] at h1
            by_cases hin : x ∈ l1
            · exact hin
            · simp [setView, hin] at h1)
          have HLT := Aside0.mk (show w4.rangeLeft b br < wr.rangeLeft b br from by rw [HRG4.out.left_eq, HRG.out.left_eq]; exact HLT4.out)
          have GO : (0 ≤ x ∧ x < (l0_1.length : Int)) → Aside0 (∀ x' ∈ l1, (left (ilit x') && !(ilit x').sameKey (Lit.int .i64 x)) = true ∨ (0 ≤ x' ∧ x' < (l0_1.length : Int))) := fun hx => ⟨fun x' hx' => by
            rcases HL2.out x' hx' with h | h
            · by_cases e : x' = x
              · subst e; exact .inr hx
              · refine .inl ?_
                rw [h, Bool.true_and, Maps.sameKey_ne (by simpa [ilit] using e)]
                rfl
            · exact .inr h⟩
          have HL4 := Aside0.mk (show ∀ kl, (left kl && !kl.sameKey (Lit.int .i64 x)) = true → Maps.has D kl = true from fun kl hkl => HL1.out kl (by rw [Bool.and_eq_true] at hkl; exact hkl.1))
          have NO : ¬ (0 ≤ x ∧ x < (l0_1.length : Int)) → r = false := fun hx => by
            rw [← HR.out]
            exact decide_eq_false (fun hl => hx (hl.2.1 x HX1.out))
          first
          | (obtain rfl := NO (by omega); go_ret; exact ⟨rfl, HB4.out⟩)
          | (have HL5 := GO (by omega); clear GO NO HX1 hwx; go_roundw; (case rel => exact ⟨_, _, HRG4, HB4, BK4, HL4, HL5⟩); (case measure => exact HLT.out))
    · have e : r = false := by
        rw [← HR.out]
        exact decide_eq_false (fun hl => hcl (HND.out.2 hl.1))
      subst e
      have hb1 : ((c : Int) == (l1.length : Int)) = false := beq_eq_false_iff_ne.mpr (by omega)
      have hb2 : ((c : Int) != (l1.length : Int)) = true := bne_iff_ne.mpr (by omega)
      clear hcl HR
      go_enter Try.func11, Try.ntmps11
      go_wp2_with (first
        | ((with_reducible refine gate_dst (N := 3) rfl ?_); refine box_event ?hg (N := 3) ?hd (cs := #[.slice A0_0 l0_0.length c0_0, .slice A0_1 l0_1.length c0_1, .slice A0_2 l0_2.length c0_2]) (t := 31) ?hr ?_; (case hd => rfl); (case hg => rfl); (case hr => first | (go_simp; done) | (go_simp; rfl)); intro gb hg w1 hbox hb; have HB1 := Aside0.mk hb; have BK1 := Aside0.mk hbox; have HG := Aside0.mk hg; clear hb hbox hg HB)
        | (go_at_call 18; refine (run_set.calls _ _ l1 _ (Kd.C_below HL.out HB1.out) hc1 HW1.out hn2).mono ?_; rintro e w2 ⟨b, D, rfl, hle, hown, hv, hb2⟩; have HLE := Aside0.mk hle; have HO2 := Aside0.mk hown; have HV := Aside0.mk hv; have HB2 := Aside0.mk (below_step HB1.out hb2); have BK2 := Aside0.mk (blk_below BK1.out hb2); clear hle hown hv hb2)
        | ((with_reducible refine gate_builtin (b := .len) (xs := #[.tmp 15]) rfl ?_); refine wp_len_map rfl _ 52 rfl 3 4 Try.underlying52 b l1.length D rfl HO2.out c (HV.out.size.trans HC.out.symm) ?_))
      go_ret
      exact ⟨rfl, HB2.out⟩
  · rw [if_neg hok] at h
    cases h
end Go.Proofs.Ytcnjnollmamifaa.P
