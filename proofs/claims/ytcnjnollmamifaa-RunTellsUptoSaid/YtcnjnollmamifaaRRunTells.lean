/- The law RunTells of the given program tells true at every input whose reading is of bulk at most 1048576.
   Conditions: those of the given row 'runTellsUptoRow': the second form (bulk at most 1048576). -/
import Derived.Test.YtcnjnollmamifaaQRunTells
import Derived.Test.YtcnjnollmamifaaHRow
import Derived.WalkKit
import Derived.ProofKit
import Derived.OpenShut
import Derived.ShutString
import Derived.ChangeOld
import Derived.Below
import Derived.JoinedCond
import Derived.WideShapes
namespace Go.Proofs.Ytcnjnollmamifaa.runTellsRow
open Go.ChangeShapes Go.WideShapes Go.ChangeAt Go.RowKit Go.Proofs.Ytcnjnollmamifaa Go.Proofs.Ytcnjnollmamifaa.P Go.Proofs.YtcnjnollmamifaaH Go.Proofs.YtcnjnollmamifaaW.PrintWords Go.Proofs.YtcnjnollmamifaaW.PrintLast
set_option linter.unusedVariables false
theorem own : ownKnob Try.prog.godebug = none := by kernel_rfl
theorem laidOut : laidOutB Try.prog = true := by kernel_rfl
instance : Inhabited S45 := ⟨z45⟩
def wf45 (x : S45) : Prop := (fun x => (fun _ => True) x.1 ∧ (fun x => (fun _ => True) x.1 ∧ (fun a => (Lit.int .i64 a).wf = true) x.2) x.2) ((fun x : S45 => (x.f0, x.f1, x.f2)) x)
def wt45 (x : S45) : Nat := (fun x => (fun _ => 1) x.1 + (fun x => (fun s => s.size + 1) x.1 + (fun _ => 1) x.2) x.2) ((fun x : S45 => (x.f0, x.f1, x.f2)) x) + 1
theorem op45 (W : World) : Opens Try.prog W k45 45 wf45 wt45 := opens_struct (g := (fun x : S45 => (x.f0, x.f1, x.f2))) (fun t => ⟨t.1, t.2.1, t.2.2⟩) (fun _ => rfl) Try.underlying45 (by kernel_rfl) (opensF_cons 0 rfl (by kernel_rfl) (opens_bool Try.underlying4) (opensF_cons 1 rfl (by kernel_rfl) (opens_string Try.underlying9) (opensF_one 2 rfl (by kernel_rfl) (opens_int Try.underlying3))))
def wfp0 : List (List S45) × List Int × List Int → Prop := (fun x => (fun xs => ∀ x ∈ xs, (fun xs => ∀ x ∈ xs, wf45 x) x) x.1 ∧ (fun x => (fun xs => ∀ x ∈ xs, (fun a => (Lit.int .i64 a).wf = true) x) x.1 ∧ (fun xs => ∀ x ∈ xs, (fun a => (Lit.int .i64 a).wf = true) x) x.2) x.2)
def wtp0 : List (List S45) × List Int × List Int → Nat := (fun x => (fun x => (fun xs => wsum (fun xs => wsum wt45 xs + 1) xs + 1) x.1 + (fun x => (fun xs => wsum (fun _ => 1) xs + 1) x.1 + (fun xs => wsum (fun _ => 1) xs + 1) x.2) x.2) x + 1)
theorem opp0 (W : World) : Opens Try.prog W (Kd.pair (Kd.slice 42 (Kd.slice 45 k45)) (Kd.pair (Kd.slice 3 (Kd.int .i64)) (Kd.slice 3 (Kd.int .i64)))) 25 wfp0 wtp0 := (opens_tuple Try.underlying25 (by kernel_rfl) (opensF_cons 0 rfl (by kernel_rfl) (opens_slice Try.underlying22 (by kernel_rfl) (opens_slice Try.underlying42 (by kernel_rfl) (op45 W))) (opensF_cons 1 rfl (by kernel_rfl) (opens_slice Try.underlying23 (by kernel_rfl) (opens_int Try.underlying3)) (opensF_one 2 rfl (by kernel_rfl) (opens_slice Try.underlying23 (by kernel_rfl) (opens_int Try.underlying3))))))
set_option maxRecDepth 100000 in
theorem contract (H : Type) (enc : TypeId × Value → H) (W : World) (base : Nat) (args : Array Value) (ds gs : List (DataW H)) (before : List MemPlace)
    (hval : ∀ (j : Nat) t v, Try.f3.params[j]? = some t → args[j]? = some v → Value.okWide Try.prog W .any base t v)
    (hW : DataW.Whole enc Try.prog Try.f3.params.toList Rows.runTellsSpec.vars false W args.toList ds gs before) (hk : Rows.uptoSmall H (ds ++ gs) = true) :
    Calls Try.prog 3 args W fun e W' => ∃ v, e = .returned v ∧ Rows.runTellsSpec.post enc Try.prog Try.f3 false true false false W args v W' := by
  have hW' := hW
  obtain ⟨p, q, hA0, hV, rfl, hfz, hnd⟩ := hW
  have hA : DataW.TrodAll enc Try.prog W 0 (fun _ => true) true Try.f3.params.toList args.toList ds p := hA0
  rw [Try.params3] at hA hval
  obtain ⟨v0, vs0, d0, ds0, p0, q0, hargs, rfl, rfl, h0, r0⟩ := trodAll_cons hA
  obtain ⟨rfl, rfl, rfl⟩ := trodAll_nil r0
  obtain rfl : args = #[v0] := by cases args; simp_all
  obtain ⟨rfl, rfl⟩ := trodVars_none hV
  have hb : Rows.uptoBulkAll ([d0] ++ []) ≤ 1048576 := of_decide_eq_true hk
  simp only [List.append_nil, Rows.uptoBulkAll] at hb
  have k0_ := h0
  have lt0_ : ∀ x ∈ p0, x.block < W.heap.size := by obtain ⟨m, hm⟩ := k0_; exact DataW.trod_lt m _ _ _ hm
  obtain ⟨fu0, hf0⟩ := h0
  obtain ⟨y0, hK0, hw0, hwt0⟩ := opp0 W _ _ _ _ _ _ _ hf0
  obtain ⟨cs0, rfl, _⟩ := okWide_struct Try.underlying25 (hval 0 25 v0 rfl rfl)
  obtain ⟨_, _, hcs0, ⟨A1_, c1_, rfl, hl1_, hr1_⟩, ⟨_, _, rfl, ⟨A2_, c2_, rfl, hl2_, hr2_⟩, ⟨A3_, c3_, rfl, hl3_, hr3_⟩⟩⟩ := hK0
  simp only [Value.cells, List.append_assoc, List.cons_append, List.nil_append] at hcs0
  obtain rfl : cs0 = #[.slice A1_ y0.1.length c1_, .slice A2_ y0.2.1.length c2_, .slice A3_ y0.2.2.length c3_] := by apply Array.toList_inj.1; exact hcs0
  have hsum : wtp0 y0 ≤ 1048576 := by
    simp only at hwt0
    omega
  have hpure := RunTells_pure y0 hw0 hsum
  obtain ⟨kr, hkr⟩ := hpure.rounds
  refine (eyewitnesslaw22_RunTells.calls kr _ _ (y0.1) _ _ (y0.2.1) _ _ (y0.2.2) true W hr1_ hl1_ hr2_ hl2_ hr3_ hl3_ hkr).mono fun e W' ⟨he, bel0⟩ => ?_
  have bel : Below W.heap.size W W' := bel0
  subst he
  simp only [List.append_nil] at hW'
  exact ⟨_, rfl, _, _, _, [], _, [], hW', trodAll_mk1 (shut_bool Try.underlying4 _), (trodAll_cons_mk (Below.trod laidOut (by kernel_rfl) (of_decide_eq_true (by kernel_rfl)) k0_ bel lt0_) trodAll_mk0), rfl, bel.frame _, fun h => by cases h⟩
set_option maxRecDepth 100000 in
theorem lifted (os : Os) (started : os.Started) (H : Type) (enc : TypeId × Value → H) (F : Stop.Interp) :
    ReturnsInHanded {} Try.checked os 3 .any ((Rows.OpenSpec.upto Rows.runTellsSpec).pre6 enc Try.prog Try.f3 Rows.runTellsUptoRow.domain false) (((Rows.OpenSpec.upto Rows.runTellsSpec).at F).post enc Try.prog Try.f3 false true false false) := by
  refine returnsInHanded_of_cond (C := Try.checked) (s := Rows.OpenSpec.upto Rows.runTellsSpec) (k := Rows.uptoSmall) rfl own started (by kernel_rfl) Try.func3
    (OpenSpec.witness (enc := enc) (C := Try.checked) (s := Rows.OpenSpec.upto Rows.runTellsSpec) (k := Rows.uptoSmall) rfl false ⟨#[], #[.agg #[.slice none 0 0, .slice none 0 0, .slice none 0 0]], []⟩ 8 (by kernel_rfl) (by kernel_rfl) (by kernel_rfl)
      (x := ([.agg [.nil, .nil, .nil]], [], [])) (by kernel_rfl) rfl (by kernel_rfl)) ?_
  intro W base args ds gs before hval hW _ hk _
  exact contract H enc W base args ds gs before hval hW hk
theorem over : Rows.runTellsUptoRow.holds Try.pinned (Rows.OpenSpec.upto Rows.runTellsSpec) :=
  OpenClaim.holds_of_cond 3 Try.f3 rfl rfl rfl rfl rfl rfl rfl ⟨rfl, rfl, rfl, rfl, rfl⟩ rfl rfl rfl rfl rfl (by kernel_rfl) Try.func3 (by kernel_rfl)
    (of_decide_eq_true (by kernel_rfl)) (by unfold Func.isWrapper; first | (rw [if_pos (by decide +kernel)]; kernel_rfl) | (rw [if_neg (by decide +kernel)]; exact ⟨rfl, rfl⟩))
    (fun os started H enc _ F => lifted os started H enc F)
end Go.Proofs.Ytcnjnollmamifaa.runTellsRow
namespace Go.Proofs.Ytcnjnollmamifaa
theorem runTells_upto_holds : Rows.RunTellsUptoSaid := runTellsRow.over
#print axioms runTells_upto_holds
end Go.Proofs.Ytcnjnollmamifaa
