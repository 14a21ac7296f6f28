/- The operations of sessions, and of more, are those of both, and as many: for every input whose size is at most 2^20, as the given statement HistJoinsUptoCardSaid says. -/
import Derived.Test.YtneeggikpbkkaaaDoorZE
import Derived.Test.YtneeggikpbkkaaaDoorTie
import Derived.Test.YtneeggikpbkkaaaDoorCards
import Derived.LaidLaws
import Derived.WalkKit
import Derived.ProofKit
import Derived.OpenShut
import Derived.ShutString
import Derived.ChangeOld
import Derived.Below
import Derived.JoinedCond
import Derived.WideShapes
import Derived.Deep.DeepHandedRow
import Derived.Lib.LaidTab
import Derived.LaidSub
set_option linter.unusedVariables false
set_option linter.unusedSimpArgs false
namespace Go.Proofs.YtneeggikpbkkaaaDoor.histJoinsRow'
open Go.ChangeShapes Go.WideShapes Go.ChangeAt Go.RowKit Go.Deep Go.Proofs.YtneeggikpbkkaaaDoor Go.AM
theorem op35 (W : World) : Opens Tryd.prog W EOp' 35 wfOp wtOp := opens_struct (g := gOp) (fun t => ⟨t.1, t.2.1, t.2.2⟩) (fun _ => rfl) Tryd.underlying35 (by kernel_rfl) (opensF_cons 0 rfl (by kernel_rfl) (opens_bool Tryd.underlying4) (opensF_cons 1 rfl (by kernel_rfl) (opens_string Tryd.underlying9) (opensF_one 2 rfl (by kernel_rfl) (opens_int Tryd.underlying3))))
theorem opp0 (W : World) : Opens Tryd.prog W (eList (eList EOp')) 22 (fun xs => ∀ x ∈ xs, (fun xs => ∀ x ∈ xs, wfOp x) x) (fun xs => wsum (fun xs => wsum wtOp xs + 1) xs + 1) := (opens_slice Tryd.underlying22 (by kernel_rfl) (by decide) (opens_slice Tryd.underlying25 (by kernel_rfl) (by decide) (op35 W)))
theorem opp1 (W : World) : Opens Tryd.prog W (eList (eList EOp')) 22 (fun xs => ∀ x ∈ xs, (fun xs => ∀ x ∈ xs, wfOp x) x) (fun xs => wsum (fun xs => wsum wtOp xs + 1) xs + 1) := (opens_slice Tryd.underlying22 (by kernel_rfl) (by decide) (opens_slice Tryd.underlying25 (by kernel_rfl) (by decide) (op35 W)))
theorem ans (y0 : _) (y1 : _) (hb : (fun xs => wsum (fun xs => wsum wtOp xs + 1) xs + 1) y0 + (fun xs => wsum (fun xs => wsum wtOp xs + 1) xs + 1) y1 ≤ 1048576)  : Ans T0 n.law06_HistJoins [(eList (eList EOp')).enc y0, (eList (eList EOp')).enc y1] [] (.bool true) [] :=
  (hist_joins y0 y1).con (hist_joins_ok y0 y1 hb) [(eList (eList EOp')).enc y0, (eList (eList EOp')).enc y1] [] rfl (fun h => by first | (cases h; done) | rfl)
theorem laid0 (W : World) (_ : laidMetH Tryd.prog Rows.histJoinsUptoRow.laid W) : LaidOK (Was W) W := fun g cs h => by cases h
theorem own : ownKnob Tryd.prog.godebug = none := by kernel_rfl
theorem laidOut : laidOutB Tryd.prog = true := by kernel_rfl
set_option maxRecDepth 100000 in
theorem contract (H : Type) (enc : TypeId × Value → H) (W : World) (base : Nat) (args : Array Value) (ds gs : List (DataW H)) (before : List MemPlace)
    (hval : ∀ (j : Nat) t v, Tryd.f5.params[j]? = some t → args[j]? = some v → Value.okWide Tryd.prog W .any base t v)
    (hW : DataW.Whole enc Tryd.prog Tryd.f5.params.toList Rows.histJoinsSpec.vars false W args.toList ds gs before) (hk : Rows.uptoSmall H (ds ++ gs) = true) (hL : laidMetH Tryd.prog Rows.histJoinsUptoRow.laid W) :
    Calls Tryd.prog 5 args W fun e W' => ∃ v, e = .returned v ∧ Rows.histJoinsSpec.post enc Tryd.prog Tryd.f5 false true false false W args v W' := by
  have hW' := hW
  obtain ⟨p, q, hA0, hV, rfl, hfz, hnd⟩ := hW
  have hA : DataW.TrodAll enc Tryd.prog W 0 (fun _ => true) true Tryd.f5.params.toList args.toList ds p := hA0
  rw [Tryd.params5] at hA hval
  obtain ⟨v0, vs0, d0, ds0, p0, q0, hargs, rfl, rfl, h0, r0⟩ := trodAll_cons hA
  obtain ⟨v1, vs1, d1, ds1, p1, q1, rfl, rfl, rfl, h1, r1⟩ := trodAll_cons r0
  obtain ⟨rfl, rfl, rfl⟩ := trodAll_nil r1
  obtain rfl : args = #[v0, v1] := by cases args; simp_all
  obtain ⟨rfl, rfl⟩ := trodVars_none hV
  have hb : Rows.uptoBulkAll ([d0, d1] ++ []) ≤ 1048576 := of_decide_eq_true hk
  simp only [List.append_nil, Rows.uptoBulkAll] at hb
  have k0_ := h0
  have lt0_ : ∀ x ∈ p0, x.block < W.heap.size := by obtain ⟨m, hm⟩ := k0_; exact DataW.trod_lt m _ _ _ hm
  obtain ⟨fu0, hf0⟩ := h0
  obtain ⟨y0, hK0, hw0, hwt0⟩ := opp0 W _ _ _ _ _ _ _ hf0
  obtain ⟨a0, len0, cap0, rfl⟩ := okWide_slice Tryd.underlying22 (hval 0 22 v0 rfl rfl)
  have R0 : VRel mu0 (Was W) W ((eList (eList EOp')).enc y0) (.slice a0 len0 cap0) := rel_scal rfl rfl hK0
  have k1_ := h1
  have lt1_ : ∀ x ∈ p1, x.block < W.heap.size := by obtain ⟨m, hm⟩ := k1_; exact DataW.trod_lt m _ _ _ hm
  obtain ⟨fu1, hf1⟩ := h1
  obtain ⟨y1, hK1, hw1, hwt1⟩ := opp1 W _ _ _ _ _ _ _ hf1
  obtain ⟨a1, len1, cap1, rfl⟩ := okWide_slice Tryd.underlying22 (hval 1 22 v1 rfl rfl)
  have R1 : VRel mu0 (Was W) W ((eList (eList EOp')).enc y1) (.slice a1 len1 cap1) := rel_scal rfl rfl hK1
  have hsum : (fun xs => wsum (fun xs => wsum wtOp xs + 1) xs + 1) y0 + (fun xs => wsum (fun xs => wsum wtOp xs + 1) xs + 1) y1 ≤ 1048576 := by
    dsimp only [id] at *
    omega
  refine (calls_of (by kernel_rfl) T0ok (laid0 W hL) (f := 5) (xs := [(eList (eList EOp')).enc y0, (eList (eList EOp')).enc y1]) (.cons R0 (.cons R1 .nil)) (ans y0 y1 hsum)).mono fun e W' ⟨cv, μ', S', he, r, bel0⟩ => ?_
  cases r
  have bel : Below W.heap.size W W' := bel0
  subst he
  simp only [List.append_nil] at hW'
  exact ⟨_, rfl, _, _, _, [], _, [], hW', trodAll_mk1 (shut_bool Tryd.underlying4 _), (trodAll_cons_mk (Below.trod laidOut (by kernel_rfl) (of_decide_eq_true (by kernel_rfl)) k0_ bel lt0_) (trodAll_cons_mk (Below.trod laidOut (by kernel_rfl) (of_decide_eq_true (by kernel_rfl)) k1_ bel lt1_) trodAll_mk0)), rfl, bel.frame _, fun h => by cases h⟩
def cellsOfD : Nat → DataW Unit → List Value
  | 0, _ => []
  | f + 1, d => match d with
    | .lit (.int k n) => [.int k n]
    | .agg l => l.flatMap (cellsOfD f)
    | _ => []
noncomputable def laidWorld : List (String × DataW Unit) → Os → World
  | [], os => World.holding Tryd.prog os ⟨#[], #[], []⟩
  | x :: r, os => { laidWorld r os with heap := (laidWorld r os).heap.modify ((Tryd.prog.globalNamed x.1).getD 0) fun
      | .cells _ t fz => .cells (cellsOfD 4 x.2).toArray t fz
      | o => o }
theorem reads (os : Os) {H : Type} (enc : TypeId × Value → H) : ∃ places, DataW.whole enc Tryd.prog ((laidWorld (Rows.histJoinsUptoRow.laid) os).forCall (fun _ _ => 0) ⟨#[], #[.slice none 0 0, .slice none 0 0], []⟩).memory Tryd.f5.params.toList Rows.histJoinsSpec.vars false (#[.slice none 0 0, .slice none 0 0] : Array Value).toList 8 = some ([.nil, .nil], [], places) :=
  ⟨[], by kernel_rfl⟩
set_option maxRecDepth 100000 in
theorem lifted (os : Os) (started : os.Started) (H : Type) (enc : TypeId × Value → H) (F : Stop.Interp) :
    ReturnsInHanded {} Tryd.checked os 5 .any ((Rows.OpenSpec.upto Rows.histJoinsSpec).preRow enc Tryd.prog Tryd.f5 Rows.histJoinsUptoRow.domain false Rows.histJoinsUptoRow.laid) (((Rows.OpenSpec.upto Rows.histJoinsSpec).at F).post enc Tryd.prog Tryd.f5 false true false false) := by
  obtain ⟨places, hx⟩ := reads os enc
  refine returnsInHanded_of_row (C := Tryd.checked) (s := Rows.OpenSpec.upto Rows.histJoinsSpec) own started (by kernel_rfl) Tryd.func5
    (witness_row_at (enc := enc) (C := Tryd.checked) false (laidWorld (Rows.histJoinsUptoRow.laid) os) #[.slice none 0 0, .slice none 0 0] rfl (by kernel_rfl) (by kernel_rfl) (by kernel_rfl)
      (OpenSpec.preRow_of_cond 8 hx (by kernel_rfl) (fun k hk => by cases hk; kernel_rfl) (by kernel_rfl) (laidMet_of_run' 8 (by kernel_rfl) (by kernel_rfl)))) ?_
  intro W base args ds gs before hval hW _ hcond _ hL _ _
  exact contract H enc W base args ds gs before hval hW (hcond _ rfl) hL
theorem and_i {a b : Bool} (h : a = true) (k : b = true) : (a && b) = true := by rw [h, k]; rfl
set_option maxHeartbeats 8000000 in
theorem closed : joinedFacts Tryd.pinned.checked.prog 5 Tryd.f5 (Rows.OpenSpec.upto Rows.histJoinsSpec).bare Rows.histJoinsUptoRow = true := by
  unfold joinedFacts
  repeat' (with_reducible refine and_i ?_ ?_)
  all_goals (as_aux_lemma => kernel_rfl)
theorem over : Rows.HistJoinsUptoSaid :=
  OpenClaim.holds_of_cond 5 Tryd.f5 rfl rfl rfl rfl rfl rfl rfl ⟨rfl, rfl, rfl, rfl, rfl⟩ rfl rfl rfl rfl rfl (by kernel_rfl) Tryd.func5 closed
    (of_decide_eq_true (by kernel_rfl)) (by unfold Func.isWrapper; first | (rw [if_pos (by decide +kernel)]; kernel_rfl) | (rw [if_neg (by decide +kernel)]; exact ⟨rfl, rfl⟩))
    (fun os started H enc _ F => by rw [OpenClaim.pre_eq_preRow]; exact lifted os started H enc F)
theorem plain (f : FuncId) (fn : Func) (hf : Tryd.pinned.checked.prog.funcNamed "eyewitness/eyewitnesslaw06.HistJoins" = some f) (hfn : Tryd.pinned.checked.prog.funcs[f]? = some fn) :
    false = Tryd.pinned.checked.prog.looks [] ∧ ∀ (j : Nat) t, fn.params[j]? = some t → Tryd.pinned.checked.prog.wantsStandIn t = false := by
  obtain rfl : f = 5 := Option.some.inj ((show Tryd.prog.funcNamed "eyewitness/eyewitnesslaw06.HistJoins" = some 5 by kernel_rfl).symm.trans hf) |>.symm
  obtain rfl : fn = Tryd.f5 := (Option.some.inj (Tryd.func5.symm.trans hfn)).symm
  refine ⟨by kernel_rfl, fun j t ht => ?_⟩
  rw [Tryd.params5] at ht
  have hm : t = 22 ∨ t = 22 := by simpa using Array.mem_of_getElem? ht
  rcases hm with rfl | rfl
  · exact (show Tryd.prog.wantsStandIn 22 = false by kernel_rfl)
  · exact (show Tryd.prog.wantsStandIn 22 = false by kernel_rfl)
set_option maxHeartbeats 8000000 in
theorem card : Rows.HistJoinsUptoCardSaid :=
  Claim7.holds_tied_plain_at .later [] _ _ _ _ over (fun _ h => by cases h) (by as_aux_lemma => kernel_rfl) (fun _ h => by cases h) histJoinsUpto_row_tie rfl ⟨rfl, rfl⟩ (by as_aux_lemma => kernel_rfl) rfl plain (by as_aux_lemma => kernel_rfl)
end Go.Proofs.YtneeggikpbkkaaaDoor.histJoinsRow'
namespace Go.Proofs.YtneeggikpbkkaaaDoor
theorem histJoins_upto_holds : Rows.HistJoinsUptoCardSaid := histJoinsRow'.card
end Go.Proofs.YtneeggikpbkkaaaDoor
#print axioms Go.Proofs.YtneeggikpbkkaaaDoor.histJoins_upto_holds

