/- Whatever verdict, words and numbers come in (small ones are compared): the text is the document's; for arguments of bulk at most 2^20. -/
import Derived.Test.YthhgiappgpeloaaDoorZK
import Derived.Test.YthhgiappgpeloaaDoorTie
import Derived.Test.YthhgiappgpeloaaDoorCards
import Derived.LaidLaws
import Derived.WalkKit
import Derived.ProofKit
import Derived.OpenShut
import Derived.ShutString
import Derived.ChangeOld
import Derived.Below
import Derived.JoinedCond
import Derived.WideShapes
import Derived.Deep.DeepHandedRow
import Derived.Lib.LaidTab
import Derived.LaidSub
set_option linter.unusedVariables false
set_option linter.unusedSimpArgs false
namespace Go.Proofs.YthhgiappgpeloaaDoor.tellTellsRow'
open Go.ChangeShapes Go.WideShapes Go.ChangeAt Go.RowKit Go.Deep Go.Proofs.YthhgiappgpeloaaDoor Go.AM
theorem op46 (W : World) : Opens Tryd.prog W EStep' 46 wfStep wtStep := opens_struct (g := gStep) (fun t => ⟨t.1, t.2.1, t.2.2.1, t.2.2.2.1, t.2.2.2.2⟩) (fun _ => rfl) Tryd.underlying46 (by kernel_rfl) (opensF_cons 0 rfl (by kernel_rfl) (opens_int Tryd.underlying3) (opensF_cons 1 rfl (by kernel_rfl) (opens_int Tryd.underlying3) (opensF_cons 2 rfl (by kernel_rfl) (opens_int Tryd.underlying3) (opensF_cons 3 rfl (by kernel_rfl) (opens_int Tryd.underlying3) (opensF_one 4 rfl (by kernel_rfl) (opens_int Tryd.underlying3))))))
theorem op32 (W : World) : Opens Tryd.prog W EWitness' 32 wfWitness wtWitness := opens_struct (g := gWitness) (fun t => ⟨t.1, t.2.1, t.2.2.1, t.2.2.2.1, t.2.2.2.2.1, t.2.2.2.2.2.1, t.2.2.2.2.2.2.1, t.2.2.2.2.2.2.2⟩) (fun _ => rfl) Tryd.underlying32 (by kernel_rfl) (opensF_cons 0 rfl (by kernel_rfl) (opens_int Tryd.underlying3) (opensF_cons 1 rfl (by kernel_rfl) (opens_int Tryd.underlying3) (opensF_cons 2 rfl (by kernel_rfl) (opens_int Tryd.underlying3) (opensF_cons 3 rfl (by kernel_rfl) (opens_int Tryd.underlying3) (opensF_cons 4 rfl (by kernel_rfl) (opens_int Tryd.underlying3) (opensF_cons 5 rfl (by kernel_rfl) (opens_slice Tryd.underlying30 (by kernel_rfl) (by decide) (op46 W)) (opensF_cons 6 rfl (by kernel_rfl) (opens_int Tryd.underlying3) (opensF_one 7 rfl (by kernel_rfl) (opens_int Tryd.underlying3)))))))))
theorem op25 (W : World) : Opens Tryd.prog W EMat' 25 wfMat wtMat := opens_struct (g := gMat) (fun t => ⟨t.1, t.2⟩) (fun _ => rfl) Tryd.underlying25 (by kernel_rfl) (opensF_cons 0 rfl (by kernel_rfl) (opens_int Tryd.underlying3) (opensF_one 1 rfl (by kernel_rfl) (opens_slice Tryd.underlying23 (by kernel_rfl) (by decide) (opens_slice Tryd.underlying92 (by kernel_rfl) (by decide) (opens_int Tryd.underlying104)))))
theorem op29 (W : World) : Opens Tryd.prog W ECert' 29 wfCert wtCert := opens_struct (g := gCert) (fun t => ⟨t.1, t.2.1, t.2.2.1, t.2.2.2⟩) (fun _ => rfl) Tryd.underlying29 (by kernel_rfl) (opensF_cons 0 rfl (by kernel_rfl) (opens_int Tryd.underlying3) (opensF_cons 1 rfl (by kernel_rfl) (op25 W) (opensF_cons 3 rfl (by kernel_rfl) (opens_slice Tryd.underlying26 (by kernel_rfl) (by decide) (opens_int Tryd.underlying3)) (opensF_one 4 rfl (by kernel_rfl) (opens_slice Tryd.underlying27 (by kernel_rfl) (by decide) (opens_slice Tryd.underlying26 (by kernel_rfl) (by decide) (opens_int Tryd.underlying3)))))))
theorem op34 (W : World) : Opens Tryd.prog W EVerdict' 34 wfVerdict wtVerdict := opens_struct (g := gVerdict) (fun t => ⟨t.1, t.2.1, t.2.2.1, t.2.2.2.1, t.2.2.2.2.1, t.2.2.2.2.2.1, t.2.2.2.2.2.2.1, t.2.2.2.2.2.2.2⟩) (fun _ => rfl) Tryd.underlying34 (by kernel_rfl) (opensF_cons 0 rfl (by kernel_rfl) (opens_int Tryd.underlying22) (opensF_cons 1 rfl (by kernel_rfl) (opens_int Tryd.underlying3) (opensF_cons 2 rfl (by kernel_rfl) (opens_int Tryd.underlying3) (opensF_cons 3 rfl (by kernel_rfl) (opens_int Tryd.underlying3) (opensF_cons 4 rfl (by kernel_rfl) (opens_int Tryd.underlying3) (opensF_cons 5 rfl (by kernel_rfl) (opens_bool Tryd.underlying4) (opensF_cons 6 rfl (by kernel_rfl) (op29 W) (opensF_one 11 rfl (by kernel_rfl) (op32 W)))))))))
theorem opp0 (W : World) : Opens Tryd.prog W EVerdict' 34 wfVerdict wtVerdict := (op34 W)
theorem opp1 (W : World) : Opens Tryd.prog W (eList eStr) 35 (fun xs => ∀ x ∈ xs, (fun _ => True) x) (fun xs => wsum (fun s => s.length + 1) xs + 1) := (opens_slice Tryd.underlying35 (by kernel_rfl) (by decide) (opens_string Tryd.underlying9))
theorem opp2 (W : World) : Opens Tryd.prog W (eList (eInt .i64)) 26 (fun xs => ∀ x ∈ xs, (fun a => (Lit.int .i64 a).wf = true) x) (fun xs => wsum (fun _ => 1) xs + 1) := (opens_slice Tryd.underlying26 (by kernel_rfl) (by decide) (opens_int Tryd.underlying3))
theorem ans (y0 : _) (y1 : _) (y2 : _) (hb : wtVerdict y0 + (fun xs => wsum (fun s => s.length + 1) xs + 1) y1 + (fun xs => wsum (fun _ => 1) xs + 1) y2 ≤ 1048576) (hw0 : wfVerdict y0) (hw1 : (fun xs => ∀ x ∈ xs, (fun _ => True) x) y1) (hw2 : (fun xs => ∀ x ∈ xs, (fun a => (Lit.int .i64 a).wf = true) x) y2) : Ans T0 n.law26_TellTells [EVerdict'.enc y0, (eList eStr).enc y1, (eList (eInt .i64)).enc y2] [] (.bool true) [] :=
  (tellTellsR y0 y1 y2).con (tellTellsR_ok y0 y1 y2 hb hw0 hw1 hw2) [EVerdict'.enc y0, (eList eStr).enc y1, (eList (eInt .i64)).enc y2] [] rfl (fun h => by first | (cases h; done) | rfl)
theorem tabEq : (Rows.tellTellsUptoRow.laid.filter fun x => x.1 == "internal/strconv.uint64pow10") = [("internal/strconv.uint64pow10", Lib.tabData .u64 Lib.pow10Tab)] := by kernel_rfl
abbrev zsB : List Int := Lib.deBruijn64tab.map fun i => ((i : Nat) : Int)
theorem tabEqB : (Rows.tellTellsUptoRow.laid.filter fun x => x.1 == "math/bits.deBruijn64tab") = [("math/bits.deBruijn64tab", Lib.tabData .u8 zsB)] := by kernel_rfl
theorem laid_one {P : Program} {S : Nat → Prop} {w : World} {name : String} {g : Nat} {k : IntKind} {zs : List Int} (hS : S g) (hg : P.globalNamed name = some g) (ht : Lib.TabIs P w name k zs) :
    S g ∧ ∃ (c : Array Value) (e : TypeId) (fz : Nat × Nat), w.heap[g]? = some (.cells c e fz) ∧ c.size = (zs.map fun z => V.int k z).length ∧ ∀ (j : Nat) (v : V), (zs.map fun z => V.int k z)[j]? = some v → ∃ x, v.lit = some x ∧ c[j]? = some x := by
  unfold Lib.TabIs World.var? at ht
  rw [hg] at ht
  simp only [Option.bind_some] at ht
  refine ⟨hS, ?_⟩
  split at ht
  · rename_i cs e fz hh
    injection ht with ht
    refine ⟨cs, e, fz, hh, by rw [ht]; simp, fun j v hj => ?_⟩
    rw [List.getElem?_map] at hj
    obtain ⟨z, hz, rfl⟩ := Option.map_eq_some_iff.1 hj
    exact ⟨.int k z, rfl, by rw [ht]; simp [hz]⟩
  · cases ht
theorem was_of {P : Program} {w : World} {name : String} {g : Nat} {k : IntKind} {zs : List Int} (hg : P.globalNamed name = some g) (ht : Lib.TabIs P w name k zs) : Was w g := by
  unfold Lib.TabIs World.var? at ht
  rw [hg] at ht
  simp only [Option.bind_some] at ht
  split at ht
  · rename_i hh; exact heap_of hh
  · cases ht
theorem laid0 (W : World) (hL : laidMetH Tryd.prog Rows.tellTellsUptoRow.laid W) : LaidOK (Was W) W := by
  have h1 : laidMet Tryd.prog Rows.tellTellsUptoRow.laid W := hL
  have h2 := laidMet.filter (fun x => x.1 == "internal/strconv.uint64pow10") h1
  rw [tabEq] at h2
  have h3 := laidMet.filter (fun x => x.1 == "math/bits.deBruijn64tab") h1
  rw [tabEqB] at h3
  have hg : Tryd.prog.globalNamed "internal/strconv.uint64pow10" = some 2 := by kernel_rfl
  have ht := Lib.tabIs_of_head (g := 2) (t := 133) (e := 104) (n := 20) hg (by kernel_rfl) (by kernel_rfl) (by kernel_rfl) (by kernel_rfl) (by kernel_rfl) h2
  have hgB : Tryd.prog.globalNamed "math/bits.deBruijn64tab" = some 1 := by kernel_rfl
  have htB := Lib.tabIs_of_head (g := 1) (t := 130) (e := 5) (n := 64) hgB (by kernel_rfl) (by kernel_rfl) (by kernel_rfl) (by kernel_rfl) (by kernel_rfl) h3
  have A := laid_one (was_of hg ht) hg ht
  have B := laid_one (was_of hgB htB) hgB htB
  intro g' cs h
  unfold laidCells laidTab at h
  simp only [List.lookup] at h
  split at h
  · rename_i he
    injection h with h
    have e1 : g' = 2 := by simpa using he
    subst e1
    subst h
    exact A
  · split at h
    · rename_i he
      injection h with h
      have e1 : g' = 1 := by simpa using he
      subst e1
      subst h
      exact B
    · cases h
theorem own : ownKnob Tryd.prog.godebug = none := by kernel_rfl
theorem laidOut : laidOutB Tryd.prog = true := by kernel_rfl
set_option maxRecDepth 100000 in
theorem contract (H : Type) (enc : TypeId × Value → H) (W : World) (base : Nat) (args : Array Value) (ds gs : List (DataW H)) (before : List MemPlace)
    (hval : ∀ (j : Nat) t v, Tryd.f3.params[j]? = some t → args[j]? = some v → Value.okWide Tryd.prog W .any base t v)
    (hW : DataW.Whole enc Tryd.prog Tryd.f3.params.toList Rows.tellTellsSpec.vars false W args.toList ds gs before) (hk : Rows.uptoSmall H (ds ++ gs) = true) (hL : laidMetH Tryd.prog Rows.tellTellsUptoRow.laid W) :
    Calls Tryd.prog 3 args W fun e W' => ∃ v, e = .returned v ∧ Rows.tellTellsSpec.post enc Tryd.prog Tryd.f3 false true false false W args v W' := by
  have hW' := hW
  obtain ⟨p, q, hA0, hV, rfl, hfz, hnd⟩ := hW
  have hA : DataW.TrodAll enc Tryd.prog W 0 (fun _ => true) true Tryd.f3.params.toList args.toList ds p := hA0
  rw [Tryd.params3] at hA hval
  obtain ⟨v0, vs0, d0, ds0, p0, q0, hargs, rfl, rfl, h0, r0⟩ := trodAll_cons hA
  obtain ⟨v1, vs1, d1, ds1, p1, q1, rfl, rfl, rfl, h1, r1⟩ := trodAll_cons r0
  obtain ⟨v2, vs2, d2, ds2, p2, q2, rfl, rfl, rfl, h2, r2⟩ := trodAll_cons r1
  obtain ⟨rfl, rfl, rfl⟩ := trodAll_nil r2
  obtain rfl : args = #[v0, v1, v2] := by cases args; simp_all
  obtain ⟨rfl, rfl⟩ := trodVars_none hV
  have hb : Rows.uptoBulkAll ([d0, d1, d2] ++ []) ≤ 1048576 := of_decide_eq_true hk
  simp only [List.append_nil, Rows.uptoBulkAll] at hb
  have k0_ := h0
  have lt0_ : ∀ x ∈ p0, x.block < W.heap.size := by obtain ⟨m, hm⟩ := k0_; exact DataW.trod_lt m _ _ _ hm
  obtain ⟨fu0, hf0⟩ := h0
  obtain ⟨y0, hK0, hw0, hwt0⟩ := opp0 W _ _ _ _ _ _ _ hf0
  obtain ⟨cs0, rfl, _⟩ := okWide_struct Tryd.underlying34 (hval 0 34 v0 rfl rfl)
  have R0 : VRel mu0 (Was W) W (EVerdict'.enc y0) (.agg cs0) := rel_agg hK0 (EVerdict'.ok y0).2
  have k1_ := h1
  have lt1_ : ∀ x ∈ p1, x.block < W.heap.size := by obtain ⟨m, hm⟩ := k1_; exact DataW.trod_lt m _ _ _ hm
  obtain ⟨fu1, hf1⟩ := h1
  obtain ⟨y1, hK1, hw1, hwt1⟩ := opp1 W _ _ _ _ _ _ _ hf1
  obtain ⟨a1, len1, cap1, rfl⟩ := okWide_slice Tryd.underlying35 (hval 1 35 v1 rfl rfl)
  have R1 : VRel mu0 (Was W) W ((eList eStr).enc y1) (.slice a1 len1 cap1) := rel_scal rfl rfl hK1
  have k2_ := h2
  have lt2_ : ∀ x ∈ p2, x.block < W.heap.size := by obtain ⟨m, hm⟩ := k2_; exact DataW.trod_lt m _ _ _ hm
  obtain ⟨fu2, hf2⟩ := h2
  obtain ⟨y2, hK2, hw2, hwt2⟩ := opp2 W _ _ _ _ _ _ _ hf2
  obtain ⟨a2, len2, cap2, rfl⟩ := okWide_slice Tryd.underlying26 (hval 2 26 v2 rfl rfl)
  have R2 : VRel mu0 (Was W) W ((eList (eInt .i64)).enc y2) (.slice a2 len2 cap2) := rel_scal rfl rfl hK2
  have hsum : wtVerdict y0 + (fun xs => wsum (fun s => s.length + 1) xs + 1) y1 + (fun xs => wsum (fun _ => 1) xs + 1) y2 ≤ 1048576 := by
    dsimp only [id] at *
    omega
  refine (calls_of (by kernel_rfl) T0ok (laid0 W hL) (f := 3) (xs := [EVerdict'.enc y0, (eList eStr).enc y1, (eList (eInt .i64)).enc y2]) (.cons R0 (.cons R1 (.cons R2 .nil))) (ans y0 y1 y2 hsum hw0 hw1 hw2)).mono fun e W' ⟨cv, μ', S', he, r, bel0⟩ => ?_
  cases r
  have bel : Below W.heap.size W W' := bel0
  subst he
  simp only [List.append_nil] at hW'
  exact ⟨_, rfl, _, _, _, [], _, [], hW', trodAll_mk1 (shut_bool Tryd.underlying4 _), (trodAll_cons_mk (Below.trod laidOut (by kernel_rfl) (of_decide_eq_true (by kernel_rfl)) k0_ bel lt0_) (trodAll_cons_mk (Below.trod laidOut (by kernel_rfl) (of_decide_eq_true (by kernel_rfl)) k1_ bel lt1_) (trodAll_cons_mk (Below.trod laidOut (by kernel_rfl) (of_decide_eq_true (by kernel_rfl)) k2_ bel lt2_) trodAll_mk0))), rfl, bel.frame _, fun h => by cases h⟩
def cellsOfD : Nat → DataW Unit → List Value
  | 0, _ => []
  | f + 1, d => match d with
    | .lit (.int k n) => [.int k n]
    | .agg l => l.flatMap (cellsOfD f)
    | _ => []
noncomputable def laidWorld : List (String × DataW Unit) → Os → World
  | [], os => World.holding Tryd.prog os ⟨#[], #[], []⟩
  | x :: r, os => { laidWorld r os with heap := (laidWorld r os).heap.modify ((Tryd.prog.globalNamed x.1).getD 0) fun
      | .cells _ t fz => .cells (cellsOfD 4 x.2).toArray t fz
      | o => o }
theorem reads (os : Os) {H : Type} (enc : TypeId × Value → H) : ∃ places, DataW.whole enc Tryd.prog ((laidWorld (Rows.tellTellsUptoRow.laid) os).forCall (fun _ _ => 0) ⟨#[], #[.agg #[.int .i64 0, .int .i64 0, .int .i64 0, .int .i64 0, .int .i64 0, .bool false, .int .i64 0, .int .i64 0, .slice none 0 0, .slice none 0 0, .slice none 0 0, .int .i64 0, .int .i64 0, .int .i64 0, .int .i64 0, .int .i64 0, .slice none 0 0, .int .i64 0, .int .i64 0], .slice none 0 0, .slice none 0 0], []⟩).memory Tryd.f3.params.toList Rows.tellTellsSpec.vars false (#[.agg #[.int .i64 0, .int .i64 0, .int .i64 0, .int .i64 0, .int .i64 0, .bool false, .int .i64 0, .int .i64 0, .slice none 0 0, .slice none 0 0, .slice none 0 0, .int .i64 0, .int .i64 0, .int .i64 0, .int .i64 0, .int .i64 0, .slice none 0 0, .int .i64 0, .int .i64 0], .slice none 0 0, .slice none 0 0] : Array Value).toList 8 = some ([.agg [.lit (.int .i64 0), .lit (.int .i64 0), .lit (.int .i64 0), .lit (.int .i64 0), .lit (.int .i64 0), .lit (.bool false), .agg [.lit (.int .i64 0), .agg [.lit (.int .i64 0), .nil], .nil, .nil], .agg [.lit (.int .i64 0), .lit (.int .i64 0), .lit (.int .i64 0), .lit (.int .i64 0), .lit (.int .i64 0), .nil, .lit (.int .i64 0), .lit (.int .i64 0)]], .nil, .nil], [], places) :=
  ⟨[], by kernel_rfl⟩
set_option maxRecDepth 100000 in
theorem lifted (os : Os) (started : os.Started) (H : Type) (enc : TypeId × Value → H) (F : Stop.Interp) :
    ReturnsInHanded {} Tryd.checked os 3 .any ((Rows.OpenSpec.upto Rows.tellTellsSpec).preRow enc Tryd.prog Tryd.f3 Rows.tellTellsUptoRow.domain false Rows.tellTellsUptoRow.laid) (((Rows.OpenSpec.upto Rows.tellTellsSpec).at F).post enc Tryd.prog Tryd.f3 false true false false) := by
  obtain ⟨places, hx⟩ := reads os enc
  refine returnsInHanded_of_row (C := Tryd.checked) (s := Rows.OpenSpec.upto Rows.tellTellsSpec) own started (by kernel_rfl) Tryd.func3
    (witness_row_at (enc := enc) (C := Tryd.checked) false (laidWorld (Rows.tellTellsUptoRow.laid) os) #[.agg #[.int .i64 0, .int .i64 0, .int .i64 0, .int .i64 0, .int .i64 0, .bool false, .int .i64 0, .int .i64 0, .slice none 0 0, .slice none 0 0, .slice none 0 0, .int .i64 0, .int .i64 0, .int .i64 0, .int .i64 0, .int .i64 0, .slice none 0 0, .int .i64 0, .int .i64 0], .slice none 0 0, .slice none 0 0] rfl (by kernel_rfl) (by kernel_rfl) (by kernel_rfl)
      (OpenSpec.preRow_of_cond 8 hx (by kernel_rfl) (fun k hk => by cases hk; kernel_rfl) (by kernel_rfl) (laidMet_of_run' 8 (by kernel_rfl) (by kernel_rfl)))) ?_
  intro W base args ds gs before hval hW _ hcond _ hL _ _
  exact contract H enc W base args ds gs before hval hW (hcond _ rfl) hL
theorem and_i {a b : Bool} (h : a = true) (k : b = true) : (a && b) = true := by rw [h, k]; rfl
set_option maxHeartbeats 8000000 in
theorem closed : joinedFacts Tryd.pinned.checked.prog 3 Tryd.f3 (Rows.OpenSpec.upto Rows.tellTellsSpec).bare Rows.tellTellsUptoRow = true := by
  unfold joinedFacts
  repeat' (with_reducible refine and_i ?_ ?_)
  all_goals (as_aux_lemma => kernel_rfl)
theorem over : Rows.TellTellsUptoSaid :=
  OpenClaim.holds_of_cond 3 Tryd.f3 rfl rfl rfl rfl rfl rfl rfl ⟨rfl, rfl, rfl, rfl, rfl⟩ rfl rfl rfl rfl rfl (by kernel_rfl) Tryd.func3 closed
    (of_decide_eq_true (by kernel_rfl)) (by unfold Func.isWrapper; first | (rw [if_pos (by decide +kernel)]; kernel_rfl) | (rw [if_neg (by decide +kernel)]; exact ⟨rfl, rfl⟩))
    (fun os started H enc _ F => by rw [OpenClaim.pre_eq_preRow]; exact lifted os started H enc F)
theorem plain (f : FuncId) (fn : Func) (hf : Tryd.pinned.checked.prog.funcNamed "eyewitness/eyewitnesslaw26.TellTells" = some f) (hfn : Tryd.pinned.checked.prog.funcs[f]? = some fn) :
    false = Tryd.pinned.checked.prog.looks [] ∧ ∀ (j : Nat) t, fn.params[j]? = some t → Tryd.pinned.checked.prog.wantsStandIn t = false := by
  obtain rfl : f = 3 := Option.some.inj ((show Tryd.prog.funcNamed "eyewitness/eyewitnesslaw26.TellTells" = some 3 by kernel_rfl).symm.trans hf) |>.symm
  obtain rfl : fn = Tryd.f3 := (Option.some.inj (Tryd.func3.symm.trans hfn)).symm
  refine ⟨by kernel_rfl, fun j t ht => ?_⟩
  rw [Tryd.params3] at ht
  have hm : t = 34 ∨ t = 35 ∨ t = 26 := by simpa using Array.mem_of_getElem? ht
  rcases hm with rfl | rfl | rfl
  · exact (show Tryd.prog.wantsStandIn 34 = false by kernel_rfl)
  · exact (show Tryd.prog.wantsStandIn 35 = false by kernel_rfl)
  · exact (show Tryd.prog.wantsStandIn 26 = false by kernel_rfl)
set_option maxHeartbeats 8000000 in
theorem card : Rows.TellTellsUptoCardSaid :=
  Claim7.holds_tied_plain_at .later [] _ _ _ _ over (fun _ h => by cases h) (by as_aux_lemma => kernel_rfl) (fun _ h => by cases h) tellTellsUpto_row_tie rfl ⟨rfl, rfl⟩ (by as_aux_lemma => kernel_rfl) rfl plain (by as_aux_lemma => kernel_rfl)
end Go.Proofs.YthhgiappgpeloaaDoor.tellTellsRow'
namespace Go.Proofs.YthhgiappgpeloaaDoor
theorem tellTells_upto_holds : Rows.TellTellsUptoCardSaid := tellTellsRow'.card
end Go.Proofs.YthhgiappgpeloaaDoor
#print axioms Go.Proofs.YthhgiappgpeloaaDoor.tellTells_upto_holds

