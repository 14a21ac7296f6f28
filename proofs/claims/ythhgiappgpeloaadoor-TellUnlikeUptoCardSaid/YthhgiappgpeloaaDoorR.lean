/- Unlike witnesses, or levels, have unlike texts: for every input whose size is at most 2^20, as the given statement TellUnlikeUptoCardSaid says. -/
import Derived.Test.YthhgiappgpeloaaDoorZI
import Derived.Test.YthhgiappgpeloaaDoorTie
import Derived.Test.YthhgiappgpeloaaDoorCards
import Derived.LaidLaws
import Derived.WalkKit
import Derived.ProofKit
import Derived.OpenShut
import Derived.ShutString
import Derived.ChangeOld
import Derived.Below
import Derived.JoinedCond
import Derived.WideShapes
import Derived.Deep.DeepHandedRow
import Derived.Lib.LaidTab
import Derived.LaidSub
set_option linter.unusedVariables false
set_option linter.unusedSimpArgs false
namespace Go.Proofs.YthhgiappgpeloaaDoor.tellUnlikeRow'
open Go.ChangeShapes Go.WideShapes Go.ChangeAt Go.RowKit Go.Deep Go.Proofs.YthhgiappgpeloaaDoor Go.AM
theorem op46 (W : World) : Opens Tryd.prog W EStep' 46 wfStep wtStep := opens_struct (g := gStep) (fun t => ⟨t.1, t.2.1, t.2.2.1, t.2.2.2.1, t.2.2.2.2⟩) (fun _ => rfl) Tryd.underlying46 (by kernel_rfl) (opensF_cons 0 rfl (by kernel_rfl) (opens_int Tryd.underlying3) (opensF_cons 1 rfl (by kernel_rfl) (opens_int Tryd.underlying3) (opensF_cons 2 rfl (by kernel_rfl) (opens_int Tryd.underlying3) (opensF_cons 3 rfl (by kernel_rfl) (opens_int Tryd.underlying3) (opensF_one 4 rfl (by kernel_rfl) (opens_int Tryd.underlying3))))))
theorem op32 (W : World) : Opens Tryd.prog W EWitness' 32 wfWitness wtWitness := opens_struct (g := gWitness) (fun t => ⟨t.1, t.2.1, t.2.2.1, t.2.2.2.1, t.2.2.2.2.1, t.2.2.2.2.2.1, t.2.2.2.2.2.2.1, t.2.2.2.2.2.2.2⟩) (fun _ => rfl) Tryd.underlying32 (by kernel_rfl) (opensF_cons 0 rfl (by kernel_rfl) (opens_int Tryd.underlying3) (opensF_cons 1 rfl (by kernel_rfl) (opens_int Tryd.underlying3) (opensF_cons 2 rfl (by kernel_rfl) (opens_int Tryd.underlying3) (opensF_cons 3 rfl (by kernel_rfl) (opens_int Tryd.underlying3) (opensF_cons 4 rfl (by kernel_rfl) (opens_int Tryd.underlying3) (opensF_cons 5 rfl (by kernel_rfl) (opens_slice Tryd.underlying30 (by kernel_rfl) (by decide) (op46 W)) (opensF_cons 6 rfl (by kernel_rfl) (opens_int Tryd.underlying3) (opensF_one 7 rfl (by kernel_rfl) (opens_int Tryd.underlying3)))))))))
theorem op44 (W : World) : Opens Tryd.prog W EAsk' 44 wfAsk wtAsk := opens_struct (g := gAsk) (fun t => ⟨t.1, t.2.1, t.2.2.1, t.2.2.2⟩) (fun _ => rfl) Tryd.underlying44 (by kernel_rfl) (opensF_cons 0 rfl (by kernel_rfl) (op32 W) (opensF_cons 8 rfl (by kernel_rfl) (op32 W) (opensF_cons 16 rfl (by kernel_rfl) (opens_int Tryd.underlying3) (opensF_one 17 rfl (by kernel_rfl) (opens_int Tryd.underlying3)))))
theorem opp0 (W : World) : Opens Tryd.prog W EAsk' 44 wfAsk wtAsk := (op44 W)
theorem ans (y0 : _) (hb : wtAsk y0 ≤ 1048576) (hw0 : wfAsk y0) : Ans T0 n.law26_TellUnlike [EAsk'.enc y0] [] (.bool true) [] :=
  (tellUnlikeR y0).con (tellUnlikeR_ok y0 hb hw0) [EAsk'.enc y0] [] rfl (fun h => by first | (cases h; done) | rfl)
theorem tabEq : (Rows.tellUnlikeUptoRow.laid.filter fun x => x.1 == "internal/strconv.uint64pow10") = [("internal/strconv.uint64pow10", Lib.tabData .u64 Lib.pow10Tab)] := by kernel_rfl
theorem laid0 (W : World) (hL : laidMetH Tryd.prog Rows.tellUnlikeUptoRow.laid W) : LaidOK (Was W) W := by
  have h1 : laidMet Tryd.prog Rows.tellUnlikeUptoRow.laid W := hL
  have h2 := laidMet.filter (fun x => x.1 == "internal/strconv.uint64pow10") h1
  rw [tabEq] at h2
  have hg : Tryd.prog.globalNamed "internal/strconv.uint64pow10" = some 2 := by kernel_rfl
  have ht := Lib.tabIs_of_head (g := 2) (t := 133) (e := 104) (n := 20) hg (by kernel_rfl) (by kernel_rfl) (by kernel_rfl) (by kernel_rfl) (by kernel_rfl) h2
  have hS : Was W 2 := by
    unfold Lib.TabIs World.var? at ht
    rw [hg] at ht
    simp only [Option.bind_some] at ht
    split at ht
    · rename_i hh; exact heap_of hh
    · cases ht
  refine laid_of hS hg ht fun g' cs h => ?_
  unfold laidCells laidTab at h
  simp only [List.lookup] at h
  split at h
  · rename_i he
    injection h with h
    exact ⟨by simpa using he, by rw [← h]; rfl⟩
  · cases h
theorem own : ownKnob Tryd.prog.godebug = none := by kernel_rfl
theorem laidOut : laidOutB Tryd.prog = true := by kernel_rfl
set_option maxRecDepth 100000 in
theorem contract (H : Type) (enc : TypeId × Value → H) (W : World) (base : Nat) (args : Array Value) (ds gs : List (DataW H)) (before : List MemPlace)
    (hval : ∀ (j : Nat) t v, Tryd.f4.params[j]? = some t → args[j]? = some v → Value.okWide Tryd.prog W .any base t v)
    (hW : DataW.Whole enc Tryd.prog Tryd.f4.params.toList Rows.tellUnlikeSpec.vars false W args.toList ds gs before) (hk : Rows.uptoSmall H (ds ++ gs) = true) (hL : laidMetH Tryd.prog Rows.tellUnlikeUptoRow.laid W) :
    Calls Tryd.prog 4 args W fun e W' => ∃ v, e = .returned v ∧ Rows.tellUnlikeSpec.post enc Tryd.prog Tryd.f4 false true false false W args v W' := by
  have hW' := hW
  obtain ⟨p, q, hA0, hV, rfl, hfz, hnd⟩ := hW
  have hA : DataW.TrodAll enc Tryd.prog W 0 (fun _ => true) true Tryd.f4.params.toList args.toList ds p := hA0
  rw [Tryd.params4] at hA hval
  obtain ⟨v0, vs0, d0, ds0, p0, q0, hargs, rfl, rfl, h0, r0⟩ := trodAll_cons hA
  obtain ⟨rfl, rfl, rfl⟩ := trodAll_nil r0
  obtain rfl : args = #[v0] := by cases args; simp_all
  obtain ⟨rfl, rfl⟩ := trodVars_none hV
  have hb : Rows.uptoBulkAll ([d0] ++ []) ≤ 1048576 := of_decide_eq_true hk
  simp only [List.append_nil, Rows.uptoBulkAll] at hb
  have k0_ := h0
  have lt0_ : ∀ x ∈ p0, x.block < W.heap.size := by obtain ⟨m, hm⟩ := k0_; exact DataW.trod_lt m _ _ _ hm
  obtain ⟨fu0, hf0⟩ := h0
  obtain ⟨y0, hK0, hw0, hwt0⟩ := opp0 W _ _ _ _ _ _ _ hf0
  obtain ⟨cs0, rfl, _⟩ := okWide_struct Tryd.underlying44 (hval 0 44 v0 rfl rfl)
  have R0 : VRel mu0 (Was W) W (EAsk'.enc y0) (.agg cs0) := rel_agg hK0 (EAsk'.ok y0).2
  have hsum : wtAsk y0 ≤ 1048576 := by
    dsimp only [id] at *
    omega
  refine (calls_of (by kernel_rfl) T0ok (laid0 W hL) (f := 4) (xs := [EAsk'.enc y0]) (.cons R0 .nil) (ans y0 hsum hw0)).mono fun e W' ⟨cv, μ', S', he, r, bel0⟩ => ?_
  cases r
  have bel : Below W.heap.size W W' := bel0
  subst he
  simp only [List.append_nil] at hW'
  exact ⟨_, rfl, _, _, _, [], _, [], hW', trodAll_mk1 (shut_bool Tryd.underlying4 _), (trodAll_cons_mk (Below.trod laidOut (by kernel_rfl) (of_decide_eq_true (by kernel_rfl)) k0_ bel lt0_) trodAll_mk0), rfl, bel.frame _, fun h => by cases h⟩
def cellsOfD : Nat → DataW Unit → List Value
  | 0, _ => []
  | f + 1, d => match d with
    | .lit (.int k n) => [.int k n]
    | .agg l => l.flatMap (cellsOfD f)
    | _ => []
noncomputable def laidWorld : List (String × DataW Unit) → Os → World
  | [], os => World.holding Tryd.prog os ⟨#[], #[], []⟩
  | x :: r, os => { laidWorld r os with heap := (laidWorld r os).heap.modify ((Tryd.prog.globalNamed x.1).getD 0) fun
      | .cells _ t fz => .cells (cellsOfD 4 x.2).toArray t fz
      | o => o }
theorem reads (os : Os) {H : Type} (enc : TypeId × Value → H) : ∃ places, DataW.whole enc Tryd.prog ((laidWorld (Rows.tellUnlikeUptoRow.laid) os).forCall (fun _ _ => 0) ⟨#[], #[.agg #[.int .i64 0, .int .i64 0, .int .i64 0, .int .i64 0, .int .i64 0, .slice none 0 0, .int .i64 0, .int .i64 0, .int .i64 0, .int .i64 0, .int .i64 0, .int .i64 0, .int .i64 0, .slice none 0 0, .int .i64 0, .int .i64 0, .int .i64 0, .int .i64 0]], []⟩).memory Tryd.f4.params.toList Rows.tellUnlikeSpec.vars false (#[.agg #[.int .i64 0, .int .i64 0, .int .i64 0, .int .i64 0, .int .i64 0, .slice none 0 0, .int .i64 0, .int .i64 0, .int .i64 0, .int .i64 0, .int .i64 0, .int .i64 0, .int .i64 0, .slice none 0 0, .int .i64 0, .int .i64 0, .int .i64 0, .int .i64 0]] : Array Value).toList 8 = some ([.agg [.agg [.lit (.int .i64 0), .lit (.int .i64 0), .lit (.int .i64 0), .lit (.int .i64 0), .lit (.int .i64 0), .nil, .lit (.int .i64 0), .lit (.int .i64 0)], .agg [.lit (.int .i64 0), .lit (.int .i64 0), .lit (.int .i64 0), .lit (.int .i64 0), .lit (.int .i64 0), .nil, .lit (.int .i64 0), .lit (.int .i64 0)], .lit (.int .i64 0), .lit (.int .i64 0)]], [], places) :=
  ⟨[], by kernel_rfl⟩
set_option maxRecDepth 100000 in
theorem lifted (os : Os) (started : os.Started) (H : Type) (enc : TypeId × Value → H) (F : Stop.Interp) :
    ReturnsInHanded {} Tryd.checked os 4 .any ((Rows.OpenSpec.upto Rows.tellUnlikeSpec).preRow enc Tryd.prog Tryd.f4 Rows.tellUnlikeUptoRow.domain false Rows.tellUnlikeUptoRow.laid) (((Rows.OpenSpec.upto Rows.tellUnlikeSpec).at F).post enc Tryd.prog Tryd.f4 false true false false) := by
  obtain ⟨places, hx⟩ := reads os enc
  refine returnsInHanded_of_row (C := Tryd.checked) (s := Rows.OpenSpec.upto Rows.tellUnlikeSpec) own started (by kernel_rfl) Tryd.func4
    (witness_row_at (enc := enc) (C := Tryd.checked) false (laidWorld (Rows.tellUnlikeUptoRow.laid) os) #[.agg #[.int .i64 0, .int .i64 0, .int .i64 0, .int .i64 0, .int .i64 0, .slice none 0 0, .int .i64 0, .int .i64 0, .int .i64 0, .int .i64 0, .int .i64 0, .int .i64 0, .int .i64 0, .slice none 0 0, .int .i64 0, .int .i64 0, .int .i64 0, .int .i64 0]] rfl (by kernel_rfl) (by kernel_rfl) (by kernel_rfl)
      (OpenSpec.preRow_of_cond 8 hx (by kernel_rfl) (fun k hk => by cases hk; kernel_rfl) (by kernel_rfl) (laidMet_of_run' 8 (by kernel_rfl) (by kernel_rfl)))) ?_
  intro W base args ds gs before hval hW _ hcond _ hL _ _
  exact contract H enc W base args ds gs before hval hW (hcond _ rfl) hL
theorem and_i {a b : Bool} (h : a = true) (k : b = true) : (a && b) = true := by rw [h, k]; rfl
set_option maxHeartbeats 8000000 in
theorem closed : joinedFacts Tryd.pinned.checked.prog 4 Tryd.f4 (Rows.OpenSpec.upto Rows.tellUnlikeSpec).bare Rows.tellUnlikeUptoRow = true := by
  unfold joinedFacts
  repeat' (with_reducible refine and_i ?_ ?_)
  all_goals (as_aux_lemma => kernel_rfl)
theorem over : Rows.TellUnlikeUptoSaid :=
  OpenClaim.holds_of_cond 4 Tryd.f4 rfl rfl rfl rfl rfl rfl rfl ⟨rfl, rfl, rfl, rfl, rfl⟩ rfl rfl rfl rfl rfl (by kernel_rfl) Tryd.func4 closed
    (of_decide_eq_true (by kernel_rfl)) (by unfold Func.isWrapper; first | (rw [if_pos (by decide +kernel)]; kernel_rfl) | (rw [if_neg (by decide +kernel)]; exact ⟨rfl, rfl⟩))
    (fun os started H enc _ F => by rw [OpenClaim.pre_eq_preRow]; exact lifted os started H enc F)
theorem plain (f : FuncId) (fn : Func) (hf : Tryd.pinned.checked.prog.funcNamed "eyewitness/eyewitnesslaw26.TellUnlike" = some f) (hfn : Tryd.pinned.checked.prog.funcs[f]? = some fn) :
    false = Tryd.pinned.checked.prog.looks [] ∧ ∀ (j : Nat) t, fn.params[j]? = some t → Tryd.pinned.checked.prog.wantsStandIn t = false := by
  obtain rfl : f = 4 := Option.some.inj ((show Tryd.prog.funcNamed "eyewitness/eyewitnesslaw26.TellUnlike" = some 4 by kernel_rfl).symm.trans hf) |>.symm
  obtain rfl : fn = Tryd.f4 := (Option.some.inj (Tryd.func4.symm.trans hfn)).symm
  refine ⟨by kernel_rfl, fun j t ht => ?_⟩
  rw [Tryd.params4] at ht
  have hm : t = 44 := by simpa using Array.mem_of_getElem? ht
  rcases hm with rfl
  · exact (show Tryd.prog.wantsStandIn 44 = false by kernel_rfl)
set_option maxHeartbeats 8000000 in
theorem card : Rows.TellUnlikeUptoCardSaid :=
  Claim7.holds_tied_plain_at .later [] _ _ _ _ over (fun _ h => by cases h) (by as_aux_lemma => kernel_rfl) (fun _ h => by cases h) tellUnlikeUpto_row_tie rfl ⟨rfl, rfl⟩ (by as_aux_lemma => kernel_rfl) rfl plain (by as_aux_lemma => kernel_rfl)
end Go.Proofs.YthhgiappgpeloaaDoor.tellUnlikeRow'
namespace Go.Proofs.YthhgiappgpeloaaDoor
theorem tellUnlike_upto_holds : Rows.TellUnlikeUptoCardSaid := tellUnlikeRow'.card
end Go.Proofs.YthhgiappgpeloaaDoor
#print axioms Go.Proofs.YthhgiappgpeloaaDoor.tellUnlike_upto_holds

