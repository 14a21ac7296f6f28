/- Part TA of the proof. -/
import Derived.Test.YtneeggikpbkkaaaDoorA2
import Derived.Test.YtneeggikpbkkaaaDoorProg
import Derived.WalkKit
import Derived.Lib.AppendZeros
import Derived.Lib.AppendZerosOnto
import Derived.Deep.DeepMust
import Derived.RangeFuncNested
import Derived.RangeFuncBound
import Derived.RangeFuncCalls
import Derived.RangeFuncLeaves
import Derived.RangeFuncBox
import Derived.Shelf.Abstract
import Derived.Shelf.RegionOpen
import Derived.OwnWalkIn
import Derived.TacticsInMore
import Derived.LoopNIn
import Derived.LoopIn
import Derived.Test.YtneeggikpbkkaaaDoorA3
import Derived.KernelRfl
/- slices.Grow of nil, walked: a row with room. -/
set_option linter.unusedVariables false
set_option linter.unusedSimpArgs false
namespace Go.AM
open Go.RowKit Go.Proofs
theorem info35 : (Tryd.prog.info? 35).map (fun i => (i.zero, i.size, i.bytes)) = some (some (.agg #[.bool false, .string .empty, .int .i64 0]), 3, 32) := by kernel_rfl
theorem opsGrow0 (w : World) : Calls Tryd.prog 30 #[.slice none 0 0, .int .i64 ((0 : Nat) : Int)] w fun e w' => e = .returned (.slice none 0 0) ∧ w' = w := by
  have h2 : wrap64 (((0 : Nat) : Int) - wrap64 (0 - 0)) = ((0 : Nat) : Int) := by unfold wrap64; omega
  have h3 : wrap64 (0 - 0) = 0 := by unfold wrap64; omega
  go_enter Tryd.func30, Tryd.ntmps30
  go_wp2
  go_ret
  exact ⟨rfl, rfl⟩
set_option maxHeartbeats 2000000 in
set_option maxRecDepth 100000 in
theorem opsGrow1 (n : Nat) (w : World) (hn : n < 4398046511104) (h4 : ¬ n = 0) :
    Calls Tryd.prog 30 #[.slice none 0 0, .int .i64 (n : Int)] w fun e w' => ∃ (G : Nat) (cs : Array Value), e = .returned (.slice (some ⟨w.heap.size, 0, none⟩) 0 G) ∧ w' = (w.alloc (.cells cs 35 (0, 0))).drew ∧ cs.size = G * 3 := by
  have h1 : ¬ ((n : Int) < 0) := by omega
  have h2 : wrap64 ((n : Int) - wrap64 (0 - 0)) = (n : Int) := by unfold wrap64; omega
  have h3 : wrap64 (0 - 0) = 0 := by unfold wrap64; omega
  have h5 : wrap64 (n : Int) = (n : Int) := by unfold wrap64; omega
  have hp : ((n : Int) > 0) := by omega
  obtain ⟨i0, hi0, hzz⟩ := Option.map_eq_some_iff.1 info35
  simp only [Prod.mk.injEq] at hzz
  obtain ⟨hz0, hz1, hz2⟩ := hzz
  have hrz := fun ty => Lib.run_append_grow_zeros w 25 3 ty 35 i0 _ .i64 .i64 Tryd.underlying25 Tryd.underlying3 hi0 hz0 none 0 0 [] (run_firstCells_none w.drew i0.size 0 0 0) n (by omega) (by omega) (by omega) (by omega) (by rw [hz2]; omega)
      (by rw [hz2]; exact growslice_fits (by omega) (by omega))
  simp only [Nat.zero_add] at hrz
  have hGn : n ≤ grownCap w n 0 35 := grownCap_ge w _ _ _
  obtain ⟨G, hG⟩ : ∃ G, G = grownCap w n 0 35 := ⟨_, rfl⟩
  rw [← hG] at hrz hGn
  clear hG
  go_enter Tryd.func30, Tryd.ntmps30
  go_wp2_with (at_builtin; refine Lib.wpList_append_run _ rfl _ _ _ _ rfl _ _ rfl rfl _ _ (hrz _) ?_)
  all_goals
    go_ret
    refine ⟨G, rfl, _, rfl, ?_⟩
    simp only [Array.size_append, List.size_toArray, List.length_nil, size_zeroCells]
    show n * 3 + (G - n) * 3 = G * 3
    omega
def gGrow : List V → Heap → Option (V × Heap)
  | [.nil, .int .i64 n], H => if n = 0 then some (.nil, H) else if 0 < n ∧ n < 4398046511104 then some (.ref H.length 3 0 0, H ++ [.row 3 true []]) else none
  | _, _ => none
theorem grow_ok : ∀ args H v H', gGrow args H = some (v, H') → H.length ≤ H'.length ∧ ∀ (μ : Mu) (S : Nat → Prop) (w : World) (cargs : Array Value), Inv μ S H w → VRels μ S w args cargs.toList →
    Calls Tryd.prog 30 cargs w fun e w' => ∃ cv μ' S', e = .returned cv ∧ VRel μ' S' w' v cv ∧ Inv μ' S' H' w' ∧ Ext μ S H w μ' S' H' w' := by
  intro args H v H' h
  unfold gGrow at h
  split at h
  · rename_i n
    have cargs_of : ∀ {μ : Mu} {S : Nat → Prop} {w : World} {cargs : Array Value}, VRels μ S w [.nil, .int .i64 n] cargs.toList → cargs = #[.slice none 0 0, .int .i64 n] := fun {μ S w cargs} ha => by
      obtain ⟨l⟩ := cargs
      cases ha with
      | cons h1 h2 => cases h2 with
        | cons h2 h3 => cases h1; cases h2; cases h3; rfl
    split at h
    · rename_i h0
      subst h0
      injection h with h; injection h with e1 e2; subst e1; subst e2
      refine ⟨Nat.le_refl _, fun μ S w cargs I ha => ?_⟩
      obtain rfl := cargs_of ha
      exact Calls.mono (opsGrow0 w) fun e w' ⟨he, hw⟩ => ⟨_, μ, S, he, .nil, hw ▸ I, hw ▸ Ext.refl _ _ _ _⟩
    · split at h
      · rename_i h0 h1
        injection h with h; injection h with e1 e2; subst e1; subst e2
        refine ⟨by simp, fun μ S w cargs I ha => ?_⟩
        obtain rfl := cargs_of ha
        have hn := opsGrow1 n.toNat w (by omega) (by omega)
        rw [show ((n.toNat : Nat) : Int) = n by omega] at hn
        refine Calls.mono hn fun e w' ⟨G, cs, he, hw, hs⟩ => ?_
        subst hw
        obtain ⟨i, x⟩ := I.push (.row 3 true []) (.cells cs 35 (0, 0)) (row_mk (heap_alloc_new _) (by simp) (by simp) (by simp))
        refine ⟨_, _, _, he, ?_, i.drawn _, x.trans (Ext.drawn _ _ _ _ _)⟩
        refine VRel.drawn _ _ _ ?_
        have := VRel.ref (μ := μ.lay H.length w.heap.size) (S := S) (w := w.alloc (.cells cs 35 (0, 0))) H.length 3 0 0 G w.heap.size 0 cs 35 (0, 0) (Mu.lay_self _ _ _) (heap_alloc_new _) (Nat.zero_le _) (by omega)
        simpa using this
      · cases h
  · cases h
end Go.AM

/- hist.spots: a range over a function, in the world. -/
set_option linter.unusedVariables false
set_option linter.unusedSimpArgs false
namespace Go.AM
open Go.RowKit Go.Shelf Go.Proofs
attribute [local go_sem] Oper.semAt_some
/-- What has come when k rows are over, and p places of the next. -/
def upTo (ls : List Nat) (k p : Nat) : List (Nat × Nat) := ((List.range k).flatMap fun s => (List.range (ls.getD s 0)).map fun q => (s, q)) ++ (List.range p).map fun q => (k, q)
theorem upTo_p (ls : List Nat) (k p : Nat) : upTo ls k (p + 1) = upTo ls k p ++ [(k, p)] := by
  simp [upTo, List.range_succ]
theorem upTo_k (ls : List Nat) (k : Nat) : upTo ls (k + 1) 0 = upTo ls k (ls.getD k 0) := by
  simp [upTo, List.range_succ]
set_option maxRecDepth 100000 in
set_option maxHeartbeats 4000000 in
theorem spots1_in (F : Fence) (n : Nat) (hf : F.fn 31) (hro : F.round = none) (hn : 1 ≤ n) (l Bs n₀ N : Nat) (sv : Value) (ls : List Nat) (hreach : ls.length ≤ 1048576) (hl2 : ∀ j, ls.getD j 0 ≤ 1048576) (hN : ∀ k p, k < ls.length → p < ls.getD k 0 → (upTo ls k p).length < N) (J Jx : List (Nat × Nat) → World → Prop)
    (hY : ∀ pre x W, J pre W → pre.length < N → YieldAt F (n - 1) Tryd.prog l #[.agg #[.int .i64 (x.1 : Int), .int .i64 (x.2 : Int)]] W fun e W' =>
      (e = .returned (.bool true) ∧ J (pre ++ [x]) W' ∧ Below n₀ W W') ∨ (e = .returned (.bool false) ∧ Jx (pre ++ [x]) W'))
    (W : World) (hBs : W.cell? ⟨Bs, 0, none⟩ = some sv) (hR : RowsW n₀ W sv ls) (h0 : J [] W) :
    CallsIn F n Tryd.prog 31 #[.func (.yield l) #[] #[], .pointer (some ⟨Bs, 0, none⟩)] W fun e W' => (∃ v, e = .returned v) ∧
      ((∃ ys, ys = upTo ls ls.length 0 ∧ J ys W') ∨ (∃ pre, (∃ k p, k < ls.length ∧ p < ls.getD k 0 ∧ pre = upTo ls k (p + 1)) ∧ Jx pre W')) := by
  obtain ⟨a, cap, rfl, hc⟩ := hR
  refine callsIn_of_wp Tryd.func31 rfl hf ?_ hro
  simp only [Tryd.ntmps31, List.size_toArray, List.length_cons, List.length_nil, Nat.reduceAdd, Nat.reduceSub, Array.replicate_succ, Array.replicate_zero, List.push_toArray, List.append_toArray, List.nil_append, List.cons_append]
  gi_wp2
  gi_loopw [8] (fun i wr => ∃ k : Nat, k ≤ ls.length ∧ i = .int .i64 k ∧ J (upTo ls k 0) wr ∧ Below n₀ W wr)
    (fun i _ => ls.length - (intOf i).toNat)
  case atStart => exact ⟨0, Nat.zero_le _, rfl, h0, Below.refl _ _⟩
  case round =>
    obtain ⟨k, hk, rfl, hJs, hnx⟩ := hrel
    by_cases hlt : k < ls.length
    · obtain ⟨b, off, rfl, hb, c, d, hcell⟩ := hc k hlt
      have hcx : wr.cell? ⟨b, off + k, none⟩ = some (.slice c (ls.getD k 0) d) := (hnx.cell (p := ⟨b, off + k, none⟩) hb).trans hcell
      have hl3 := hl2 k
      generalize hm : ls.getD k 0 = m at *
      gi_wp2
      gi_loopw [15] (fun i wr2 => ∃ p : Nat, p ≤ m ∧ i = .int .i64 p ∧ J (upTo ls k p) wr2 ∧ Below n₀ W wr2)
        (fun i _ => m - (intOf i).toNat)
      case atStart => exact ⟨0, Nat.zero_le _, rfl, hJs, hnx⟩
      case round =>
        obtain ⟨p, hp, rfl, hJp, hnp⟩ := hrel
        by_cases hlp : p < m
        · obtain ⟨fn, tmps, assign, body, hy, hR⟩ := hY _ (k, p) _ hJp (hN k p hlt (by omega))
          dsimp only at hy
          gi_wp2
          refine hR.mono ?_
          rintro e W3 (⟨rfl, hJ3, hk3⟩ | ⟨rfl, hJx3⟩)
          · gi_wp2
            go_roundw
            case rel => exact ⟨p + 1, by omega, by simp, by rw [upTo_p]; exact hJ3, hnp.trans hk3⟩
            case measure => simp [intOf]; omega
          · gi_wp2
            refine bodyPost_ret (results_none rfl _ _ _) rfl ?_
            exact ⟨⟨_, rfl⟩, .inr ⟨_, ⟨k, p, hlt, by omega, (upTo_p _ _ _).symm⟩, hJx3⟩⟩
        · obtain rfl : p = m := by omega
          gi_wp2
          go_roundw
          case rel => exact ⟨k + 1, by omega, by simp, by rw [upTo_k, hm]; exact hJp, hnp⟩
          case measure => simp [intOf]; omega
    · obtain rfl : k = ls.length := by omega
      gi_wp2
      go_end0
      exact ⟨⟨_, rfl⟩, .inl ⟨_, rfl, hJs⟩⟩
end Go.AM

/- hist.Spot, in the world. -/
set_option linter.unusedVariables false
set_option linter.unusedSimpArgs false
namespace Go.AM
open Go.RowKit Go.Shelf Go.Proofs
attribute [local go_sem] Oper.semAt_some
set_option maxHeartbeats 1000000 in
theorem spots_in (F : Fence) (n : Nat) (h22 : F.fn 22) (hro : F.round = none) (a : Option Addr) (len cap : Nat) (w : World) :
    CallsIn F n Tryd.prog 22 #[.slice a len cap] w fun e w' => e = .returned (.func (.func 31) #[] #[.pointer (some ⟨w.heap.size, 0, none⟩)]) ∧ w' = w.alloc (.cells #[.slice a len cap] 22) := by
  refine callsIn_of_wp Tryd.func22 rfl h22 ?_ hro
  simp only [Tryd.ntmps22, List.size_toArray, List.length_cons, List.length_nil, Nat.reduceAdd, Nat.reduceSub, Array.replicate_succ, Array.replicate_zero, List.push_toArray, List.append_toArray, List.nil_append, List.cons_append]
  gi_wp2
  go_ret
  exact ⟨rfl, rfl⟩
theorem spots_stops (F : Fence) (n : Nat) (h31 : F.fn 31) (hro : F.round = none) (hn : 1 ≤ n) (Bs n₀ N : Nat) (sv : Value) (ls : List Nat) (hreach : ls.length ≤ 1048576) (hl2 : ∀ j, ls.getD j 0 ≤ 1048576) (hN : ∀ k p, k < ls.length → p < ls.getD k 0 → (upTo ls k p).length < N) (w : World) (hBs : Bs < w.heap.size) (hn₀ : n₀ ≤ w.heap.size)
    (hc : w.cell? ⟨Bs, 0, none⟩ = some sv) (hI : RowsW n₀ w sv ls) :
    SeqStopsK F n Tryd.prog 31 #[.pointer (some ⟨Bs, 0, none⟩)] (fun x : Nat × Nat => #[Value.agg #[.int .i64 (x.1 : Int), .int .i64 (x.2 : Int)]]) (Below n₀) (fun ys => ys = upTo ls ls.length 0)
      (fun pre => ∃ k p, k < ls.length ∧ p < ls.getD k 0 ∧ pre = upTo ls k (p + 1)) N w := fun l J Jx W hW _ _ hY h0 =>
  spots1_in F n h31 hro hn l Bs n₀ N sv ls hreach hl2 hN J Jx hY W ((hW.cell (p := ⟨Bs, 0, none⟩) hBs).trans hc) (hI.below (hW.mono hn₀)) h0
def spotVal : Option (Nat × Nat) → Value
  | some x => .tuple #[.agg #[.int .i64 (x.1 : Nat), .int .i64 (x.2 : Nat)], .bool true]
  | none => .tuple #[.agg #[.int .i64 0, .int .i64 0], .bool false]
/-- A box of some cells. -/
def BoxN (W : World) (B : Nat) (t : TypeId) (cs : Array Value) : Prop := W.heap[B]? = some (.cells cs t (0, 0))
section
variable {W W' : World} {B : Nat} {t : TypeId} {cs : Array Value}
theorem BoxN.lt (h : BoxN W B t cs) : B < W.heap.size := (Array.getElem?_eq_some_iff.1 h).1
theorem BoxN.cell (h : BoxN W B t cs) (j : Nat) : W.cell? ⟨B, j, none⟩ = cs[j]? := by simp [World.cell?, show W.heap[B]? = _ from h]
theorem BoxN.frozen (h : BoxN W B t cs) (j : Nat) : W.frozen? ⟨B, j, none⟩ = false := by simp [World.frozen?, show W.heap[B]? = _ from h]
theorem BoxN.new (W : World) (t : TypeId) (cs : Array Value) : BoxN (W.alloc (.cells cs t)) W.heap.size t cs := World.alloc_heap_new W _
theorem BoxN.kept {row : Option Nat} (h : BoxN W B t cs) (hg : W.grownBy W' row) (hne : some B ≠ row) : BoxN W' B t cs := (hg.block B h.lt hne).trans h
theorem BoxN.alloc (h : BoxN W B t cs) (o : Obj) : BoxN (W.alloc o) B t cs := h.kept (World.grownBy_alloc W o none) (by simp)
theorem BoxN.set (j : Nat) (v' : Value) (h : BoxN W B t cs) : BoxN (W.setCell ⟨B, j, none⟩ v') B t (cs.setIfInBounds j v') := by
  obtain ⟨hlt, hk⟩ := Array.getElem?_eq_some_iff.1 h
  show (W.heap.modify B _)[B]? = _
  rw [Array.getElem?_eq_getElem (by rw [Array.size_modify]; exact hlt), Array.getElem_modify_self, hk]
  rfl
theorem BoxN.other (h : BoxN W B t cs) {B' : Nat} (hne : B ≠ B') (j : Nat) (u : Value) : BoxN (W.setCell ⟨B', j, none⟩ u) B t cs := by
  have : (W.setCell ⟨B', j, none⟩ u).heap[B]? = W.heap[B]? := Below.heap_setCell W ⟨B', j, none⟩ u B hne
  exact this.trans h
theorem boxN_own {β : Type} (B : Nat) (t : TypeId) (f : β → Array Value) : Go.Own (fun s W => BoxN W B t (f s)) := fun s X Y row hs hg hrow =>
  hs.kept hg (fun e' => by obtain ⟨o, ho, hc⟩ := hrow B e'.symm; rw [show X.heap[B]? = _ from hs] at ho; cases ho; cases hc)
end
theorem upTo_len (ls : List Nat) : ∀ k, (upTo ls k 0).length ≤ (upTo ls (k + 1) 0).length := fun k => by
  rw [upTo_k]; simp [upTo]
theorem upTo_mono (ls : List Nat) {k m : Nat} (h : k ≤ m) : (upTo ls k 0).length ≤ (upTo ls m 0).length := by
  induction h with
  | refl => exact Nat.le_refl _
  | step _ ih => exact Nat.le_trans ih (upTo_len ls _)
theorem upTo_in (ls : List Nat) (k : Nat) {a b : Nat} (h : a ≤ b) : upTo ls k a <+: upTo ls k b := by
  induction h with
  | refl => exact List.prefix_rfl
  | step _ ih => rw [upTo_p]; exact ih.trans (List.prefix_append _ _)
theorem upTo_up (ls : List Nat) {k m : Nat} (h : k ≤ m) : upTo ls k 0 <+: upTo ls m 0 := by
  induction h with
  | refl => exact List.prefix_rfl
  | @step m _ ih => rw [upTo_k]; exact ih.trans (upTo_in ls m (Nat.zero_le _))
theorem upTo_pre (ls : List Nat) {k p : Nat} (hk : k < ls.length) (hp : p < ls.getD k 0) : upTo ls k (p + 1) <+: upTo ls ls.length 0 := by
  have h1 : upTo ls k (p + 1) <+: upTo ls (k + 1) 0 := by rw [upTo_k]; exact upTo_in ls k hp
  exact h1.trans (upTo_up ls hk)
theorem upTo_bound (ls : List Nat) : ∃ N, ∀ k p, k < ls.length → p < ls.getD k 0 → (upTo ls k p).length < N := by
  refine ⟨(upTo ls ls.length 0).length + 1, fun k p hk hp => ?_⟩
  have h1 : (upTo ls k p).length ≤ (upTo ls (k + 1) 0).length := by
    rw [upTo_k]; simp only [upTo, List.length_append, List.length_map, List.length_range]; omega
  have h2 := upTo_mono ls (show k + 1 ≤ ls.length by omega)
  omega
set_option maxRecDepth 100000 in
set_option maxHeartbeats 4000000 in
theorem spot_in (F : Fence) (n : Nat) (h10 : F.fn 10) (h22 : F.fn 22) (h31 : F.fn 31) (hro : F.round = none) (hn : 3 ≤ n) (a : Option Addr) (cap : Nat) (ls : List Nat) (i : Int) (hi : 0 ≤ i) (hi2 : i ≤ 9223372036854775807) (hreach : ls.length ≤ 1048576) (hl2 : ∀ j, ls.getD j 0 ≤ 1048576) (w : World) (hI : RowsW w.heap.size w (.slice a ls.length cap) ls) :
    CallsIn F n Tryd.prog 10 #[.slice a ls.length cap, .int .i64 i] w fun e W' =>
      e = .returned (spotVal (upTo ls ls.length 0)[i.toNat]?) ∧ Below w.heap.size w W' := by
  have h1 : 1 ≤ n := by omega
  refine callsIn_of_wp_marks Tryd.func10 rfl h10 ?_ hro
  simp only [Tryd.ntmps10, List.size_toArray, List.length_cons, List.length_nil, Nat.reduceAdd, Nat.reduceSub, Array.replicate_succ, Array.replicate_zero, List.push_toArray, List.append_toArray, List.nil_append, List.cons_append]
  gi_wp2_with (gi_at_call 22; refine (spots_in F (n - 1) h22 hro _ _ _ _).mono ?_; rintro e w' ⟨rfl, rfl⟩)
  have bI := (((BoxN.new w 3 #[.int .i64 i]).alloc (.cells #[.int .i64 0, .int .i64 0] 29)).alloc (.cells #[.bool false] 4)).alloc (.cells #[.slice a ls.length cap] 22)
  have bR := ((BoxN.new (w.alloc (.cells #[.int .i64 i] 3)) 29 #[.int .i64 0, .int .i64 0]).alloc (.cells #[.bool false] 4)).alloc (.cells #[.slice a ls.length cap] 22)
  have bB := (BoxN.new ((w.alloc (.cells #[.int .i64 i] 3)).alloc (.cells #[.int .i64 0, .int .i64 0] 29)) 4 #[.bool false]).alloc (.cells #[.slice a ls.length cap] 22)
  have bH := BoxN.new (((w.alloc (.cells #[.int .i64 i] 3)).alloc (.cells #[.int .i64 0, .int .i64 0] 29)).alloc (.cells #[.bool false] 4)) 22 #[.slice a ls.length cap]
  simp only [World.size_alloc] at bR bB bH
  have hB0 : Below w.heap.size w ((((w.alloc (.cells #[.int .i64 i] 3)).alloc (.cells #[.int .i64 0, .int .i64 0] 29)).alloc (.cells #[.bool false] 4)).alloc (.cells #[.slice a ls.length cap] 22)) := ((((Below.refl _ w).alloc (Nat.le_refl _) _).alloc (by simp) _).alloc (by simp; omega) _).alloc (by simp; omega) _
  have hsz : ((((w.alloc (.cells #[.int .i64 i] 3)).alloc (.cells #[.int .i64 0, .int .i64 0] 29)).alloc (.cells #[.bool false] 4)).alloc (.cells #[.slice a ls.length cap] 22)).heap.size = w.heap.size + 4 := by simp
  obtain ⟨W0, hW0⟩ : ∃ W0, ((((w.alloc (.cells #[.int .i64 i] 3)).alloc (.cells #[.int .i64 0, .int .i64 0] 29)).alloc (.cells #[.bool false] 4)).alloc (.cells #[.slice a ls.length cap] 22)) = W0 := ⟨_, rfl⟩
  rw [hW0] at bI bR bB bH hB0 hsz ⊢
  clear hW0
  obtain ⟨N, hN⟩ : ∃ N, ∀ k p, k < ls.length → p < ls.getD k 0 → (upTo ls k p).length < N := upTo_bound ls
  refine wpIn_rangeFunc_ownH hro h1 (gf := 31) (lb := #[.pointer (some ⟨w.heap.size + 1 + 1 + 1, 0, none⟩)]) rfl h31 (enters_of Tryd.func31 (by kernel_rfl) rfl)
    (spots_stops F (n - 1) h31 hro (by omega) (w.heap.size + 1 + 1 + 1) w.heap.size N _ ls hreach hl2 hN W0 (by omega) (by omega) ((bH.cell 0).trans rfl) (hI.below hB0)) belowK_t (belowK_b (by omega)) (Below.refl _ _) (fun _ => rfl)
    (fun pre W => (((BoxN W w.heap.size 3 #[.int .i64 (i - (pre.length : Nat))] ∧ BoxN W (w.heap.size + 1) 29 #[.int .i64 0, .int .i64 0]) ∧ BoxN W (w.heap.size + 1 + 1) 4 #[.bool false]) ∧ Below w.heap.size w W) ∧ (pre.length : Int) ≤ i)
    (fun c pre W => (((BoxN W (w.heap.size + 1) 29 #[.int .i64 ((pre.getLastD (0, 0)).1 : Nat), .int .i64 ((pre.getLastD (0, 0)).2 : Nat)]) ∧ BoxN W (w.heap.size + 1 + 1) 4 #[.bool true]) ∧ Below w.heap.size w W) ∧ (c = .ret ∧ pre.length = i.toNat + 1))
    (OwnFrom.and (OwnFrom.and (OwnFrom.and (OwnFrom.and (Go.Own.from (boxN_own _ _ _) _) (Go.Own.from (boxN_own _ _ (fun _ => _)) _)) (Go.Own.from (boxN_own _ _ (fun _ => _)) _)) (ownFrom_below (Nat.le_refl _) (by omega))) (ownFrom_pure _ _))
    (fun c => OwnFrom.and (OwnFrom.and (OwnFrom.and (Go.Own.from (boxN_own _ _ (fun pre : List (Nat × Nat) => #[.int .i64 ((pre.getLastD (0, 0)).1 : Nat), .int .i64 ((pre.getLastD (0, 0)).2 : Nat)])) _) (Go.Own.from (boxN_own _ _ (fun _ => _)) _)) (ownFrom_below (Nat.le_refl _) (by omega))) (ownFrom_pure _ _))
    ⟨⟨⟨⟨by simpa using bI, bR⟩, bB⟩, hB0⟩, by simpa using hi⟩
    (fun x a' W => ∃ Bx, w.heap.size + 2 < Bx ∧ BoxN W Bx 29 #[.int .i64 (x.1 : Nat), .int .i64 (x.2 : Nat)] ∧ a' = { tmps := #[.slice a ls.length cap, .int .i64 i, undef, .pointer (some ⟨w.heap.size, 0, none⟩), .pointer (some ⟨w.heap.size + 1, 0, none⟩), .pointer (some ⟨w.heap.size + 1 + 1, 0, none⟩), .pointer (some ⟨Bx, 0, none⟩), .int .i64 i, .bool (decide (i < 0)), undef, .slice a ls.length cap, .func (.func 31) #[] #[.pointer (some ⟨w.heap.size + 1 + 1 + 1, 0, none⟩)], .agg #[.int .i64 (x.1 : Nat), .int .i64 (x.2 : Nat)], undef, undef, undef, undef, undef, undef], defers := [] })
    (fun x a' _ X Y row hs hg hr => by obtain ⟨Bx, h1, h2, h3⟩ := hs; exact ⟨Bx, h1, boxN_own Bx 29 (fun (_ : Unit) => #[.int .i64 (x.1 : Nat), .int .i64 (x.2 : Nat)]) () X Y row h2 hg (fun r e => (hr r e).2), h3⟩)
    ?assign ?body ?done ?stop
  case assign =>
    rintro l pre x W K ⟨⟨⟨⟨bI1, bR1⟩, bB1⟩, hB1⟩, hp1⟩ hK
    gi_wp2
    exact hK _ _ ((KeepsOthers.alloc _ _).from _) ((Below.refl _ W).alloc hB1.size _) ⟨⟨⟨⟨bI1.alloc _, bR1.alloc _⟩, bB1.alloc _⟩, hB1.alloc hB1.size _⟩, hp1⟩ ⟨W.heap.size, bB1.lt, BoxN.new W 29 _, rfl⟩
  case body =>
    rintro l pre x a' W hl ⟨r, hr⟩ ⟨⟨⟨⟨bI1, bR1⟩, bB1⟩, hB1⟩, hp1⟩ ⟨Bx, hBx, bX, rfl⟩ hlt
    have cI := bI1.cell 0
    have fI := bI1.frozen 0
    have cR0 := bR1.cell 0
    have cR1 := bR1.cell 1
    have fR0 := bR1.frozen 0
    have fR1 := bR1.frozen 1
    have cB0 := bB1.cell 0
    have fB0 := bB1.frozen 0
    have cX0 := bX.cell 0
    have cX1 := bX.cell 1
    have hl1 : (pre ++ [x]).getLastD (0, 0) = x := by simp
    gi_wp2
    · rename_i h
      have h0 : i - (pre.length : Nat) = 0 := by simpa using h
      refine ⟨(((KeepsOthers.setCell _ _ _).trans (KeepsOthers.setCell _ _ _)).trans (KeepsOthers.setCell _ _ _)).from _, ⟨⟨⟨?_, ?_⟩, ?_⟩, rfl, ?_⟩⟩
      · rw [hl1]; exact (((bR1.set 0 _).set 1 _).other (by omega) 0 _)
      · exact ((bB1.other (by omega) 0 _).other (by omega) 1 _).set 0 _
      · exact ((hB1.setCell (p := ⟨w.heap.size + 1, 0, none⟩) (by simp) _).setCell (p := ⟨w.heap.size + 1, 1, none⟩) (by simp) _).setCell (p := ⟨w.heap.size + 1 + 1, 0, none⟩) (by simp; omega) _
      · simp; omega
    · rename_i h
      have h0 : ¬ i - (pre.length : Nat) = 0 := by simpa using h
      refine ⟨(KeepsOthers.setCell _ _ _).from _, (Below.refl w.heap.size W).setCell (p := ⟨w.heap.size, 0, none⟩) (Nat.le_refl _) _, ⟨⟨⟨⟨?_, ?_⟩, ?_⟩, ?_⟩, ?_⟩⟩
      · have := bI1.set 0 (.int .i64 (i - (pre.length : Nat) - 1))
        rw [List.length_append, List.length_singleton, show i - ((pre.length + 1 : Nat) : Int) = i - (pre.length : Nat) - 1 by omega]
        exact this
      · exact bR1.other (by omega) 0 _
      · exact bB1.other (by omega) 0 _
      · exact hB1.setCell (p := ⟨w.heap.size, 0, none⟩) (Nat.le_refl _) _
      · rw [List.length_append, List.length_singleton]; omega
  case done =>
    rintro D zs W hD rfl ⟨⟨⟨⟨bI1, bR1⟩, bB1⟩, hB1⟩, hp1⟩ hK
    have cR0 := bR1.cell 0
    have cR1 := bR1.cell 1
    have fR0 := bR1.frozen 0
    have fR1 := bR1.frozen 1
    have cB0 := bB1.cell 0
    have fB0 := bB1.frozen 0
    gi_wp2
    have hK' := (((KeepsOthers.setCell W ⟨w.heap.size + 1, 0, none⟩ (.int .i64 0)).trans (KeepsOthers.setCell _ ⟨w.heap.size + 1, 1, none⟩ (.int .i64 0))).trans (KeepsOthers.setCell _ ⟨w.heap.size + 1 + 1, 0, none⟩ (.bool false))).same D _ hK rfl
    have gR := ((((bR1.set 0 (.int .i64 0)).set 1 (.int .i64 0)).other (show w.heap.size + 1 ≠ w.heap.size + 1 + 1 by omega) 0 (.bool false)).kept (grownBy_putObj' _ D (.deferred none)) (by simp; omega))
    have gB := (((bB1.other (show w.heap.size + 1 + 1 ≠ w.heap.size + 1 by omega) 0 (.int .i64 0)).other (show w.heap.size + 1 + 1 ≠ w.heap.size + 1 by omega) 1 (.int .i64 0)).set 0 (.bool false)).kept (grownBy_putObj' _ D (.deferred none)) (by simp; omega)
    refine ⟨by simp, .inl ⟨_, _, rfl, run_takeDeferred hK', ?_⟩⟩
    have e0 : (upTo ls ls.length 0)[i.toNat]? = none := List.getElem?_eq_none (by omega)
    rw [e0]
    have q0 := gR.cell 0
    have q1 := gR.cell 1
    have q2 := gB.cell 0
    refine ⟨spotVal none, ?_, rfl, (((hB1.setCell (p := ⟨w.heap.size + 1, 0, none⟩) (by simp) _).setCell (p := ⟨w.heap.size + 1, 1, none⟩) (by simp) _).setCell (p := ⟨w.heap.size + 1 + 1, 0, none⟩) (by simp; omega) _).trans (belowK_b (w := w) (Nat.le_refl _) _ D _ _ (by omega) hK' rfl rfl)⟩
    simp [results, Tryd.f10, go_sem, q0, q1, q2, spotVal]
  case stop =>
    rintro D c pre W hD hS ⟨⟨⟨bR1, bB1⟩, hB1⟩, rfl, hp1⟩ hK
    obtain ⟨k, p, hk, hp, rfl⟩ := hS
    have hlast : (upTo ls k (p + 1)).getLastD (0, 0) = (k, p) := by rw [upTo_p]; simp
    have hlen : (upTo ls k p).length = i.toNat := by
      rw [upTo_p, List.length_append, List.length_singleton] at hp1; omega
    have e0 : (upTo ls ls.length 0)[i.toNat]? = some (k, p) := by
      obtain ⟨t, ht⟩ := upTo_pre ls hk hp
      rw [← ht, upTo_p, List.append_assoc, ← hlen, List.getElem?_append_right (Nat.le_refl _), Nat.sub_self]; rfl
    rw [hlast] at bR1
    gi_wp2
    have gR := bR1.kept (grownBy_putObj' _ D (.deferred none)) (by simp; omega)
    have gB := bB1.kept (grownBy_putObj' _ D (.deferred none)) (by simp; omega)
    have q0 := gR.cell 0
    have q1 := gR.cell 1
    have q2 := gB.cell 0
    refine ⟨by simp, .inl ⟨_, _, rfl, run_takeDeferred hK, ?_⟩⟩
    refine ⟨spotVal (some (k, p)), ?_, rfl, hB1.trans (belowK_b (w := w) (Nat.le_refl _) _ D _ _ (by omega) hK rfl rfl)⟩
    simp [results, Tryd.f10, go_sem, q0, q1, q2, spotVal]
set_option maxRecDepth 100000 in
set_option maxHeartbeats 4000000 in
theorem spot_neg (F : Fence) (n : Nat) (h10 : F.fn 10) (hro : F.round = none) (hn : 3 ≤ n) (a : Option Addr) (len cap : Nat) (i : Int) (hi : i < 0) (w : World) :
    CallsIn F n Tryd.prog 10 #[.slice a len cap, .int .i64 i] w fun e W' => e = .returned (spotVal none) ∧ Below w.heap.size w W' := by
  refine callsIn_of_wp_marks Tryd.func10 rfl h10 ?_ hro
  simp only [Tryd.ntmps10, List.size_toArray, List.length_cons, List.length_nil, Nat.reduceAdd, Nat.reduceSub, Array.replicate_succ, Array.replicate_zero, List.push_toArray, List.append_toArray, List.nil_append, List.cons_append]
  gi_wp2
  have bR := (BoxN.new (w.alloc (.cells #[.int .i64 i] 3)) 29 #[.int .i64 0, .int .i64 0]).alloc (.cells #[.bool false] 4)
  have bB := BoxN.new ((w.alloc (.cells #[.int .i64 i] 3)).alloc (.cells #[.int .i64 0, .int .i64 0] 29)) 4 #[.bool false]
  simp only [World.size_alloc] at bR bB
  have q0 := bR.cell 0
  have q1 := bR.cell 1
  have q2 := bB.cell 0
  refine ⟨spotVal none, ?_, rfl, (((Below.refl _ w).alloc (Nat.le_refl _) _).alloc (by simp) _).alloc (by simp; omega) _⟩
  simp [results, Tryd.f10, go_sem, q0, q1, q2, spotVal]
set_option maxHeartbeats 1000000 in
theorem spot_calls (a : Option Addr) (cap : Nat) (ls : List Nat) (i : Int) (hi2 : i ≤ 9223372036854775807) (hreach : ls.length ≤ 1048576) (hl2 : ∀ j, ls.getD j 0 ≤ 1048576) (w : World) (hI : RowsW w.heap.size w (.slice a ls.length cap) ls) :
    Calls Tryd.prog 10 #[.slice a ls.length cap, .int .i64 i] w fun e W' => e = .returned (spotVal (if i < 0 then none else (upTo ls ls.length 0)[i.toNat]?)) ∧ Below w.heap.size w W' := by
  refine (callsIn_wide (n := 3)).1 ?_
  by_cases hi : i < 0
  · rw [if_pos hi]
    exact spot_neg _ 3 trivial rfl (Nat.le_refl _) a _ cap i hi w
  · rw [if_neg hi]
    exact spot_in _ 3 trivial trivial trivial rfl (Nat.le_refl _) a cap ls i (by omega) hi2 hreach hl2 w hI
end Go.AM

/- hist.Number, in the world. -/
set_option linter.unusedVariables false
set_option linter.unusedSimpArgs false
namespace Go.AM
open Go.RowKit Go.Shelf Go.Proofs
attribute [local go_sem] Oper.semAt_some
def numVal : Option Nat → Value
  | some k => .tuple #[.int .i64 (k : Nat), .bool true]
  | none => .tuple #[.int .i64 0, .bool false]
def isAt (s p : Int) (x : Nat × Nat) : Bool := decide ((x.1 : Int) = s) && decide ((x.2 : Int) = p)
set_option maxRecDepth 100000 in
set_option maxHeartbeats 4000000 in
theorem number_in (F : Fence) (n : Nat) (h11 : F.fn 11) (h22 : F.fn 22) (h31 : F.fn 31) (hro : F.round = none) (hn : 3 ≤ n) (a : Option Addr) (cap : Nat) (ls : List Nat) (s p : Int) (hreach : ls.length ≤ 1048576) (hl2 : ∀ j, ls.getD j 0 ≤ 1048576) (htot : (upTo ls ls.length 0).length ≤ 1099511627776) (w : World) (hI : RowsW w.heap.size w (.slice a ls.length cap) ls) :
    CallsIn F n Tryd.prog 11 #[.slice a ls.length cap, .agg #[.int .i64 s, .int .i64 p]] w fun e W' =>
      e = .returned (numVal ((upTo ls ls.length 0).findIdx? (isAt s p))) ∧ Below w.heap.size w W' := by
  have h1 : 1 ≤ n := by omega
  refine callsIn_of_wp_marks Tryd.func11 rfl h11 ?_ hro
  simp only [Tryd.ntmps11, List.size_toArray, List.length_cons, List.length_nil, Nat.reduceAdd, Nat.reduceSub, Array.replicate_succ, Array.replicate_zero, List.push_toArray, List.append_toArray, List.nil_append, List.cons_append]
  gi_wp2_with (gi_at_call 22; refine (spots_in F (n - 1) h22 hro _ _ _ _).mono ?_; rintro e w' ⟨rfl, rfl⟩)
  have bA := (((BoxN.new w 29 #[.int .i64 s, .int .i64 p]).alloc (.cells #[.int .i64 0] 3)).alloc (.cells #[.bool false] 4)).alloc (.cells #[.int .i64 0] 3) |>.alloc (.cells #[.slice a ls.length cap] 22)
  have bR := ((BoxN.new (w.alloc (.cells #[.int .i64 s, .int .i64 p] 29)) 3 #[.int .i64 0]).alloc (.cells #[.bool false] 4)).alloc (.cells #[.int .i64 0] 3) |>.alloc (.cells #[.slice a ls.length cap] 22)
  have bB := ((BoxN.new ((w.alloc (.cells #[.int .i64 s, .int .i64 p] 29)).alloc (.cells #[.int .i64 0] 3)) 4 #[.bool false]).alloc (.cells #[.int .i64 0] 3)).alloc (.cells #[.slice a ls.length cap] 22)
  have bC := (BoxN.new (((w.alloc (.cells #[.int .i64 s, .int .i64 p] 29)).alloc (.cells #[.int .i64 0] 3)).alloc (.cells #[.bool false] 4)) 3 #[.int .i64 0]).alloc (.cells #[.slice a ls.length cap] 22)
  have bH := BoxN.new ((((w.alloc (.cells #[.int .i64 s, .int .i64 p] 29)).alloc (.cells #[.int .i64 0] 3)).alloc (.cells #[.bool false] 4)).alloc (.cells #[.int .i64 0] 3)) 22 #[.slice a ls.length cap]
  simp only [World.size_alloc] at bR bB bC bH
  have hB0 : Below w.heap.size w (((((w.alloc (.cells #[.int .i64 s, .int .i64 p] 29)).alloc (.cells #[.int .i64 0] 3)).alloc (.cells #[.bool false] 4)).alloc (.cells #[.int .i64 0] 3)).alloc (.cells #[.slice a ls.length cap] 22)) := (((((Below.refl _ w).alloc (Nat.le_refl _) _).alloc (by simp) _).alloc (by simp; omega) _).alloc (by simp; omega) _).alloc (by simp; omega) _
  have hsz : (((((w.alloc (.cells #[.int .i64 s, .int .i64 p] 29)).alloc (.cells #[.int .i64 0] 3)).alloc (.cells #[.bool false] 4)).alloc (.cells #[.int .i64 0] 3)).alloc (.cells #[.slice a ls.length cap] 22)).heap.size = w.heap.size + 5 := by simp
  obtain ⟨W0, hW0⟩ : ∃ W0, (((((w.alloc (.cells #[.int .i64 s, .int .i64 p] 29)).alloc (.cells #[.int .i64 0] 3)).alloc (.cells #[.bool false] 4)).alloc (.cells #[.int .i64 0] 3)).alloc (.cells #[.slice a ls.length cap] 22)) = W0 := ⟨_, rfl⟩
  rw [hW0] at bA bR bB bC bH hB0 hsz ⊢
  clear hW0
  have hN : ∀ k p, k < ls.length → p < ls.getD k 0 → (upTo ls k p).length < (upTo ls ls.length 0).length := fun k p hk hp => by
    have := (upTo_pre ls hk hp).length_le
    rw [upTo_p, List.length_append, List.length_singleton] at this
    exact this
  refine wpIn_rangeFunc_ownH hro h1 (gf := 31) (lb := #[.pointer (some ⟨w.heap.size + 1 + 1 + 1 + 1, 0, none⟩)]) rfl h31 (enters_of Tryd.func31 (by kernel_rfl) rfl)
    (spots_stops F (n - 1) h31 hro (by omega) (w.heap.size + 1 + 1 + 1 + 1) w.heap.size (upTo ls ls.length 0).length _ ls hreach hl2 hN W0 (by omega) (by omega) ((bH.cell 0).trans rfl) (hI.below hB0)) belowK_t (belowK_b (by omega)) (Below.refl _ _) (fun _ => rfl)
    (fun pre W => ((((BoxN W w.heap.size 29 #[.int .i64 s, .int .i64 p] ∧ BoxN W (w.heap.size + 1) 3 #[.int .i64 0]) ∧ BoxN W (w.heap.size + 1 + 1) 4 #[.bool false]) ∧ BoxN W (w.heap.size + 1 + 1 + 1) 3 #[.int .i64 (pre.length : Nat)]) ∧ Below w.heap.size w W) ∧ (∀ x ∈ pre, isAt s p x = false))
    (fun c pre W => (((BoxN W (w.heap.size + 1) 3 #[.int .i64 ((pre.length - 1 : Nat) : Int)]) ∧ BoxN W (w.heap.size + 1 + 1) 4 #[.bool true]) ∧ Below w.heap.size w W) ∧ (c = .ret ∧ ∃ ini last, pre = ini ++ [last] ∧ (∀ x ∈ ini, isAt s p x = false) ∧ isAt s p last = true))
    (OwnFrom.and (OwnFrom.and (OwnFrom.and (OwnFrom.and (OwnFrom.and (Go.Own.from (boxN_own _ _ (fun _ => _)) _) (Go.Own.from (boxN_own _ _ (fun _ => _)) _)) (Go.Own.from (boxN_own _ _ (fun _ => _)) _)) (Go.Own.from (boxN_own _ _ (fun pre : List (Nat × Nat) => #[.int .i64 (pre.length : Nat)])) _)) (ownFrom_below (Nat.le_refl _) (by omega))) (ownFrom_pure _ _))
    (fun c => OwnFrom.and (OwnFrom.and (OwnFrom.and (Go.Own.from (boxN_own _ _ (fun pre : List (Nat × Nat) => #[.int .i64 ((pre.length - 1 : Nat) : Int)])) _) (Go.Own.from (boxN_own _ _ (fun _ => _)) _)) (ownFrom_below (Nat.le_refl _) (by omega))) (ownFrom_pure _ _))
    ⟨⟨⟨⟨⟨bA, bR⟩, bB⟩, bC⟩, hB0⟩, fun x hx => by cases hx⟩
    (fun x a' W => ∃ Bx, w.heap.size + 3 < Bx ∧ BoxN W Bx 29 #[.int .i64 (x.1 : Nat), .int .i64 (x.2 : Nat)] ∧ a' = { tmps := #[.slice a ls.length cap, .agg #[.int .i64 s, .int .i64 p], undef, .pointer (some ⟨w.heap.size, 0, none⟩), .pointer (some ⟨w.heap.size + 1, 0, none⟩), .pointer (some ⟨w.heap.size + 1 + 1, 0, none⟩), .pointer (some ⟨w.heap.size + 1 + 1 + 1, 0, none⟩), .pointer (some ⟨Bx, 0, none⟩), .slice a ls.length cap, .func (.func 31) #[] #[.pointer (some ⟨w.heap.size + 1 + 1 + 1 + 1, 0, none⟩)], .agg #[.int .i64 (x.1 : Nat), .int .i64 (x.2 : Nat)], undef, undef, undef, undef, undef, undef], defers := [] })
    (fun x a' _ X Y row hs hg hr => by obtain ⟨Bx, h1, h2, h3⟩ := hs; exact ⟨Bx, h1, boxN_own Bx 29 (fun (_ : Unit) => #[.int .i64 (x.1 : Nat), .int .i64 (x.2 : Nat)]) () X Y row h2 hg (fun r e => (hr r e).2), h3⟩)
    ?assign ?body ?done ?stop
  case assign =>
    rintro l pre x W K ⟨⟨⟨⟨⟨bA1, bR1⟩, bB1⟩, bC1⟩, hB1⟩, hp1⟩ hK
    gi_wp2
    exact hK _ _ ((KeepsOthers.alloc _ _).from _) ((Below.refl _ W).alloc hB1.size _) ⟨⟨⟨⟨⟨bA1.alloc _, bR1.alloc _⟩, bB1.alloc _⟩, bC1.alloc _⟩, hB1.alloc hB1.size _⟩, hp1⟩ ⟨W.heap.size, bC1.lt, BoxN.new W 29 _, rfl⟩
  case body =>
    rintro l pre x a' W hl ⟨r, hr⟩ ⟨⟨⟨⟨⟨bA1, bR1⟩, bB1⟩, bC1⟩, hB1⟩, hp1⟩ ⟨Bx, hBx, bX, rfl⟩ hlt
    have cA0 := bA1.cell 0
    have cA1 := bA1.cell 1
    have cR0 := bR1.cell 0
    have fR0 := bR1.frozen 0
    have cB0 := bB1.cell 0
    have fB0 := bB1.frozen 0
    have cC0 := bC1.cell 0
    have fC0 := bC1.frozen 0
    have cX0 := bX.cell 0
    have cX1 := bX.cell 1
    have hwr : wrap64 ((pre.length : Int) + 1) = ((pre.length + 1 : Nat) : Int) := by unfold wrap64; omega
    gi_wp2
    · rename_i h1' h2'
      have hat : isAt s p x = true := by simp [isAt, h1', h2']
      refine ⟨((KeepsOthers.setCell _ _ _).trans (KeepsOthers.setCell _ _ _)).from _, ⟨⟨⟨?_, ?_⟩, ?_⟩, rfl, pre, x, rfl, hp1, hat⟩⟩
      · have := (bR1.set 0 (.int .i64 (pre.length : Nat))).other (show w.heap.size + 1 ≠ w.heap.size + 1 + 1 by omega) 0 (.bool true)
        rw [List.length_append, List.length_singleton, Nat.add_sub_cancel]
        exact this
      · exact (bB1.other (by omega) 0 _).set 0 _
      · exact (hB1.setCell (p := ⟨w.heap.size + 1, 0, none⟩) (by simp) _).setCell (p := ⟨w.heap.size + 1 + 1, 0, none⟩) (by simp; omega) _
    · rename_i h1' h2'
      refine ⟨(KeepsOthers.setCell _ _ _).from _, (Below.refl w.heap.size W).setCell (p := ⟨w.heap.size + 1 + 1 + 1, 0, none⟩) (by simp; omega) _, ⟨⟨⟨⟨⟨bA1.other (by omega) 0 _, bR1.other (by omega) 0 _⟩, bB1.other (by omega) 0 _⟩, ?_⟩, hB1.setCell (p := ⟨w.heap.size + 1 + 1 + 1, 0, none⟩) (by simp; omega) _⟩, fun y hy => (List.mem_append.1 hy).elim (hp1 y) fun e => ?_⟩⟩
      · have := bC1.set 0 (.int .i64 ((pre.length + 1 : Nat) : Int))
        rw [List.length_append, List.length_singleton]
        exact this
      · rw [List.mem_singleton.1 e]; simp [isAt, *]
    · rename_i h1'
      refine ⟨(KeepsOthers.setCell _ _ _).from _, (Below.refl w.heap.size W).setCell (p := ⟨w.heap.size + 1 + 1 + 1, 0, none⟩) (by simp; omega) _, ⟨⟨⟨⟨⟨bA1.other (by omega) 0 _, bR1.other (by omega) 0 _⟩, bB1.other (by omega) 0 _⟩, ?_⟩, hB1.setCell (p := ⟨w.heap.size + 1 + 1 + 1, 0, none⟩) (by simp; omega) _⟩, fun y hy => (List.mem_append.1 hy).elim (hp1 y) fun e => ?_⟩⟩
      · have := bC1.set 0 (.int .i64 ((pre.length + 1 : Nat) : Int))
        rw [List.length_append, List.length_singleton]
        exact this
      · rw [List.mem_singleton.1 e]; simp [isAt, *]
  case done =>
    rintro D zs W hD rfl ⟨⟨⟨⟨⟨bA1, bR1⟩, bB1⟩, bC1⟩, hB1⟩, hp1⟩ hK
    have cR0 := bR1.cell 0
    have fR0 := bR1.frozen 0
    have cB0 := bB1.cell 0
    have fB0 := bB1.frozen 0
    have e0 : (upTo ls ls.length 0).findIdx? (isAt s p) = none := List.findIdx?_eq_none_iff.2 fun x hx => by rw [hp1 x hx]
    gi_wp2
    have hK' := ((KeepsOthers.setCell W ⟨w.heap.size + 1, 0, none⟩ (.int .i64 0)).trans (KeepsOthers.setCell _ ⟨w.heap.size + 1 + 1, 0, none⟩ (.bool false))).same D _ hK rfl
    have gR := (((bR1.set 0 (.int .i64 0)).other (show w.heap.size + 1 ≠ w.heap.size + 1 + 1 by omega) 0 (.bool false)).kept (grownBy_putObj' _ D (.deferred none)) (by simp; omega))
    have gB := ((bB1.other (show w.heap.size + 1 + 1 ≠ w.heap.size + 1 by omega) 0 (.int .i64 0)).set 0 (.bool false)).kept (grownBy_putObj' _ D (.deferred none)) (by simp; omega)
    refine ⟨by simp, .inl ⟨_, _, rfl, run_takeDeferred hK', ?_⟩⟩
    have q0 := gR.cell 0
    have q2 := gB.cell 0
    refine ⟨numVal none, ?_, by rw [e0], ((hB1.setCell (p := ⟨w.heap.size + 1, 0, none⟩) (by simp) _).setCell (p := ⟨w.heap.size + 1 + 1, 0, none⟩) (by simp; omega) _).trans (belowK_b (w := w) (Nat.le_refl _) _ D _ _ (by omega) hK' rfl rfl)⟩
    simp [results, Tryd.f11, go_sem, q0, q2, numVal]
  case stop =>
    rintro D c pre W hD hS ⟨⟨⟨bR1, bB1⟩, hB1⟩, rfl, ini, last, e1, e2, e3⟩ hK
    obtain ⟨k, q, hk, hq, rfl⟩ := hS
    have e0 : (upTo ls ls.length 0).findIdx? (isAt s p) = some ini.length := by
      obtain ⟨t, ht⟩ := upTo_pre ls hk hq
      rw [← ht, e1, List.append_assoc, List.findIdx?_append]
      rw [List.findIdx?_eq_none_iff.2 fun x hx => by rw [e2 x hx]]
      simp [List.findIdx?_cons, e3]
    have hl3 : ((upTo ls k (q + 1)).length - 1 : Nat) = ini.length := by rw [e1]; simp
    rw [hl3] at bR1
    gi_wp2
    have gR := bR1.kept (grownBy_putObj' _ D (.deferred none)) (by simp; omega)
    have gB := bB1.kept (grownBy_putObj' _ D (.deferred none)) (by simp; omega)
    have q0 := gR.cell 0
    have q2 := gB.cell 0
    refine ⟨by simp, .inl ⟨_, _, rfl, run_takeDeferred hK, ?_⟩⟩
    refine ⟨numVal (some ini.length), ?_, by rw [e0], hB1.trans (belowK_b (w := w) (Nat.le_refl _) _ D _ _ (by omega) hK rfl rfl)⟩
    simp [results, Tryd.f11, go_sem, q0, q2, numVal]
set_option maxHeartbeats 1000000 in
theorem number_calls (a : Option Addr) (cap : Nat) (ls : List Nat) (s p : Int) (hreach : ls.length ≤ 1048576) (hl2 : ∀ j, ls.getD j 0 ≤ 1048576) (htot : (upTo ls ls.length 0).length ≤ 1099511627776) (w : World) (hI : RowsW w.heap.size w (.slice a ls.length cap) ls) :
    Calls Tryd.prog 11 #[.slice a ls.length cap, .agg #[.int .i64 s, .int .i64 p]] w fun e W' => e = .returned (numVal ((upTo ls ls.length 0).findIdx? (isAt s p))) ∧ Below w.heap.size w W' := by
  refine (callsIn_wide (n := 3)).1 ?_
  exact number_in _ 3 trivial trivial trivial rfl (Nat.le_refl _) a cap ls s p hreach hl2 htot w hI
end Go.AM

/- hist.Spot and hist.Number as entries of the table. -/
set_option linter.unusedVariables false
set_option linter.unusedSimpArgs false
namespace Go.AM
open Go.RowKit Go.Proofs
def spotW : Option (Nat × Nat) → V
  | some x => .tup [.agg [.int .i64 (x.1 : Nat), .int .i64 (x.2 : Nat)], .bool true]
  | none => .tup [.agg [.int .i64 0, .int .i64 0], .bool false]
def numW : Option Nat → V
  | some k => .tup [.int .i64 (k : Nat), .bool true]
  | none => .tup [.int .i64 0, .bool false]
def okLs (ls : List Nat) : Prop := ls.length ≤ 1048576 ∧ (ls.all fun k => decide (k ≤ 1048576)) = true ∧ (upTo ls ls.length 0).length ≤ 1099511627776
instance (ls : List Nat) : Decidable (okLs ls) := by unfold okLs; infer_instance
theorem okLs_at {ls : List Nat} (h : okLs ls) (j : Nat) : ls.getD j 0 ≤ 1048576 := by
  by_cases hj : j < ls.length
  · have := List.all_eq_true.1 h.2.1 (ls.getD j 0) (by simp [List.getD, hj])
    simpa using this
  · simp [List.getD, List.getElem?_eq_none (show ls.length ≤ j by omega)]
def gSpot0 : List V → Option V
  | [.lst xs, .int .i64 i] => match lensV xs with
    | some ls => if okLs ls ∧ i ≤ 9223372036854775807 then some (spotW (if i < 0 then none else (upTo ls ls.length 0)[i.toNat]?)) else none
    | none => none
  | _ => none
def gNum0 : List V → Option V
  | [.lst xs, .agg [.int .i64 s, .int .i64 p]] => match lensV xs with
    | some ls => if okLs ls then some (numW ((upTo ls ls.length 0).findIdx? (isAt s p))) else none
    | none => none
  | _ => none
def gSpot : List V → Heap → Option (V × Heap) := gPr gSpot0
def gNum : List V → Heap → Option (V × Heap) := gPr gNum0
theorem spotW_flat (o : Option (Nat × Nat)) : (spotW o).cellsT.all V.flat1 = true := by cases o <;> rfl
theorem numW_flat (o : Option Nat) : (numW o).cellsT.all V.flat1 = true := by cases o <;> rfl
theorem spotW_rel {μ : Mu} {S : Nat → Prop} {w : World} (o : Option (Nat × Nat)) : VRel μ S w (spotW o) (spotVal o) := by
  cases o with
  | none => exact VRels.tup (.cons (VRels.agg (.cons (.int _ _) (.cons (.int _ _) .nil)) rfl) (.cons (.bool _) .nil))
  | some x => exact VRels.tup (.cons (VRels.agg (.cons (.int _ _) (.cons (.int _ _) .nil)) rfl) (.cons (.bool _) .nil))
theorem numW_rel {μ : Mu} {S : Nat → Prop} {w : World} (o : Option Nat) : VRel μ S w (numW o) (numVal o) := by
  cases o with
  | none => exact VRels.tup (.cons (.int _ _) (.cons (.bool _) .nil))
  | some x => exact VRels.tup (.cons (.int _ _) (.cons (.bool _) .nil))
theorem spot_ok : ∀ args H v H', gSpot args H = some (v, H') → H.length ≤ H'.length ∧ ∀ (μ : Mu) (S : Nat → Prop) (w : World) (cargs : Array Value), Inv μ S H w → VRels μ S w args cargs.toList →
    Calls Tryd.prog 10 cargs w fun e w' => ∃ cv μ' S', e = .returned cv ∧ VRel μ' S' w' v cv ∧ Inv μ' S' H' w' ∧ Ext μ S H w μ' S' H' w' := by
  refine gPr_ok (fun ds v h => ?_) fun ds v h S2 w cargs hd hx => ?_
  · unfold gSpot0 at h
    split at h
    · split at h
      · split at h
        · injection h with h; subst h
          exact spotW_flat _
        · cases h
      · cases h
    · cases h
  · unfold gSpot0 at h
    split at h
    · rename_i xs i
      split at h
      · rename_i ls hl
        split at h
        · rename_i hok
          injection h with h; subst h
          obtain ⟨l⟩ := cargs
          cases hx with
          | cons h1 h2 => cases h2 with
            | cons h2 h3 =>
              cases h3
              have h4 := h2.int_inv
              subst h4
              have hR := rowsW hd hl h1
              obtain ⟨a, cap, e1, hc⟩ := hR
              subst e1
              refine Calls.mono (spot_calls a cap ls i hok.2 hok.1.1 (okLs_at hok.1) w ⟨a, cap, rfl, hc⟩) ?_
              rintro e w' ⟨rfl, hb⟩
              exact ⟨_, rfl, spotW_rel _, hb⟩
        · cases h
      · cases h
    · cases h
theorem number_ok' : ∀ args H v H', gNum args H = some (v, H') → H.length ≤ H'.length ∧ ∀ (μ : Mu) (S : Nat → Prop) (w : World) (cargs : Array Value), Inv μ S H w → VRels μ S w args cargs.toList →
    Calls Tryd.prog 11 cargs w fun e w' => ∃ cv μ' S', e = .returned cv ∧ VRel μ' S' w' v cv ∧ Inv μ' S' H' w' ∧ Ext μ S H w μ' S' H' w' := by
  refine gPr_ok (fun ds v h => ?_) fun ds v h S2 w cargs hd hx => ?_
  · unfold gNum0 at h
    split at h
    · split at h
      · split at h
        · injection h with h; subst h
          exact numW_flat _
        · cases h
      · cases h
    · cases h
  · unfold gNum0 at h
    split at h
    · rename_i xs s p
      split at h
      · rename_i ls hl
        split at h
        · rename_i hok
          injection h with h; subst h
          obtain ⟨l⟩ := cargs
          cases hx with
          | cons h1 h2 => cases h2 with
            | cons h2 h3 =>
              cases h3
              obtain ⟨vs, e2, h4, -⟩ := h2.agg_inv
              subst e2
              cases h4 with
              | cons k1 k2 => cases k2 with
                | cons k2 k3 =>
                  cases k3
                  have k1 := k1.int_inv
                  have k2 := k2.int_inv
                  subst k1; subst k2
                  have hR := rowsW hd hl h1
                  obtain ⟨a, cap, e1, hc⟩ := hR
                  subst e1
                  refine Calls.mono (number_calls a cap ls s p hok.1 (okLs_at hok) hok.2.2 w ⟨a, cap, rfl, hc⟩) ?_
                  rintro e w' ⟨rfl, hb⟩
                  exact ⟨_, rfl, numW_rel _, hb⟩
        · cases h
      · cases h
    · cases h
end Go.AM

set_option linter.unusedVariables false
namespace Go.AM
open Go.Proofs B
abbrev n.law06_HistBack : Nat := 3
abbrev n.law06_HistTells : Nat := 4
abbrev n.law06_HistJoins : Nat := 5
abbrev n.ref06_Small : Nat := 6
abbrev n.law06_awake : Nat := 7
abbrev n.hist_Flat : Nat := 8
abbrev n.hist_Count : Nat := 9
abbrev n.hist_Spot : Nat := 10
abbrev n.hist_Number : Nat := 11
abbrev n.ref06_Spot : Nat := 12
abbrev n.ref06_Number : Nat := 13
abbrev n.hist_Right : Nat := 14
abbrev n.ref06_Right : Nat := 15
abbrev n.ref06_Count : Nat := 16
abbrev n.law06_flat : Nat := 17
abbrev n.ref06_Flat : Nat := 18
abbrev n.hist_Same : Nat := 19
abbrev n.ref06_Same : Nat := 20
abbrev n.slices_Concat___api_Op_api_Op : Nat := 21
abbrev n.hist_spots : Nat := 22
abbrev n.slices_ContainsFunc___api_Op_api_Op : Nat := 23
abbrev n.hist_Right_1 : Nat := 24
abbrev n.hist_named : Nat := 25
abbrev n.ref06_Name : Nat := 26
abbrev n.slices_EqualFunc_____api_Op_____api_Op___api_Op___api_Op : Nat := 27
abbrev n.hist_Same_1 : Nat := 28
abbrev n.slices_Equal___api_Op_api_Op : Nat := 29
abbrev n.slices_Grow___api_Op_api_Op : Nat := 30
abbrev n.hist_spots_1 : Nat := 31
abbrev n.slices_IndexFunc___api_Op_api_Op : Nat := 32
abbrev n.strings_Trim : Nat := 33
abbrev n.strings_trimLeftByte : Nat := 34
abbrev n.strings_trimRightByte : Nat := 35
abbrev n.strings_makeASCIISet : Nat := 36
abbrev n.strings_trimLeftASCII : Nat := 37
abbrev n.strings_trimRightASCII : Nat := 38
abbrev n.strings_trimLeftUnicode : Nat := 39
abbrev n.strings_trimRightUnicode : Nat := 40
abbrev n.strings_asciiSet__contains : Nat := 41
abbrev n.strings_ContainsRune : Nat := 43
abbrev n.strings_IndexByte : Nat := 48
def b.law06_HistBack : BF := ⟨1, true, .scal, [.t 2], (.seq (.reg [] 1 []) (.seq (.ife [] 1 [] (nt (.call n.ref06_Small [(x 0), (k 60)])) (.seq (.reg [] 4 [(2, (.call n.law06_awake []))]) .ret) .skip) (.seq (.reg [] 9 [(3, (.call n.hist_Flat [(x 0)]))]) (.seq (.ife [] 9 [] (ne (len (x 3)) (.call n.hist_Count [(x 0)])) (.seq (.reg [] 4 [(2, (kb false))]) .ret) .skip) (.seq (.seq (.reg [] 25 [(4, (k 0))]) (.block 0 (.loop (.seq (.ife [] 25 [] (lt (x 4) (len (x 3))) .skip (.exit 0)) (.seq (.block 1 (.seq (.reg [.eff [(33, (xt (.call n.hist_Spot [(x 0), (x 4)]) 1)), (32, (xt (.call n.hist_Spot [(x 0), (x 4)]) 0))] 12884901913 (some 5) (alo 2 true (.agg [(.int .i64 0), (.int .i64 0)])) [], .eff [] 8589934649 none (sto 2) [(x 5), (x 32)]] 121 [(6, (x 33))]) (.seq (.reg [] 505 [(8, (xt (.call n.hist_Number [(x 0), (ldn 2 (x 5))]) 1)), (7, (xt (.call n.hist_Number [(x 0), (ldn 2 (x 5))]) 0))]) (.ife [] 25 [] (.or (.or (.or (.or (.or (.or (.or (nt (x 6)) (nt (x 8))) (ne (x 7) (x 4))) (lt (ld (fa 0 (x 5))) (k 0))) (ge (ld (fa 0 (x 5))) (len (x 0)))) (lt (ld (fa 1 (x 5))) (k 0))) (ge (ld (fa 1 (x 5))) (len (ld (ia 1 (x 0) (ld (fa 0 (x 5)))))))) (.p (.eqs true [.bool, .str, (.int .i64)] (.t 0) (.t 1)) [(ldn 3 (ia 3 (ld (ia 1 (x 0) (ld (fa 0 (x 5))))) (ld (fa 1 (x 5))))), (ldn 3 (ia 3 (x 3) (x 4)))])) (.seq (.reg [] 4 [(2, (kb false))]) .ret) .skip)))) (.reg [] 25 [(4, (add (x 4) (k 1)))])))))) (.seq (.reg [.eff [(101, (xt (.call n.hist_Spot [(x 0), (len (x 3))]) 1)), (100, (xt (.call n.hist_Spot [(x 0), (len (x 3))]) 0))] 3802951800684688204490109616128 (some 9) (alo 2 true (.agg [(.int .i64 0), (.int .i64 0)])) [], .eff [] 2535301200456458802993406410752 none (sto 2) [(x 9), (x 100)]] 1024 [(10, (x 101))]) (.seq (.reg [] 4 [(2, (.and (.call n.law06_awake []) (nt (x 10))))]) .ret)))))))⟩
def b.law06_HistTells : BF := ⟨1, true, .scal, [.t 2], (.seq (.reg [.eff [] 0 (some 1) (box 5 false) [(x 0)]] 2 []) (.seq (.raw 120 [⟨(some 15), (.p (.fad 0 (.t 1))), none, 0⟩, ⟨(some 16), (.r (.load ⟨false, 1⟩ (.t 15))), none, 0⟩, ⟨(some 17), (.p (.fad 1 (.t 1))), none, 0⟩, ⟨(some 18), (.r (.load ⟨false, 1⟩ (.t 17))), none, 0⟩, ⟨(some 19), (.p (.fad 2 (.t 1))), none, 0⟩, ⟨(some 20), (.r (.load ⟨false, 1⟩ (.t 19))), none, 0⟩, ⟨(some 21), (.p (.fad 3 (.t 1))), none, 0⟩, ⟨(some 22), (.r (.load ⟨true, 2⟩ (.t 21))), none, 0⟩, ⟨(some 6), (.l (.alloc 2 true (.agg [(.int .i64 0), (.int .i64 0)]))), none, 0⟩, ⟨(some 3), (.p (.mov (.t 16))), none, 0⟩, ⟨(some 4), (.p (.mov (.t 18))), none, 0⟩, ⟨(some 5), (.p (.mov (.t 20))), none, 0⟩, ⟨none, (.e (.store 2 (.t 6) (.t 22))), none, 0⟩]) (.seq (.ife [] 120 [] (.or (nt (.call n.ref06_Small [(x 3), (k 60)])) (nt (.call n.ref06_Small [(x 4), (k 60)]))) (.seq (.reg [] 4 [(2, (.call n.law06_awake []))]) .ret) .skip) (.seq (.reg [.eff [(37, (xt (.call n.hist_Spot [(x 3), (x 5)]) 1)), (36, (xt (.call n.hist_Spot [(x 3), (x 5)]) 0))] 206158430328 (some 7) (alo 2 true (.agg [(.int .i64 0), (.int .i64 0)])) [], .eff [] 137438953720 none (sto 2) [(x 7), (x 36)]] 504 [(8, (x 37))]) (.seq (.reg [.eff [(43, (xt (.call n.ref06_Spot [(x 3), (x 5)]) 1)), (42, (xt (.call n.ref06_Spot [(x 3), (x 5)]) 0))] 13194139533784 (some 9) (alo 2 true (.agg [(.int .i64 0), (.int .i64 0)])) [], .eff [] 8796093023192 none (sto 2) [(x 9), (x 42)]] 2008 [(10, (x 43))]) (.seq (.reg [] 8152 [(12, (xt (.call n.hist_Number [(x 3), (ldn 2 (x 6))]) 1)), (11, (xt (.call n.hist_Number [(x 3), (ldn 2 (x 6))]) 0))]) (.seq (.reg [] 32664 [(14, (xt (.call n.ref06_Number [(x 3), (ldn 2 (x 6))]) 1)), (13, (xt (.call n.ref06_Number [(x 3), (ldn 2 (x 6))]) 0))]) (.seq (.reg [] 4 [(2, (.and (.and (.and (.and (.and (.and (.and (.and (.call n.law06_awake []) (.p (.beq false (.t 0) (.t 1)) [(.call n.hist_Right [(x 3)]), (.call n.ref06_Right [(x 3)])])) (eq (.call n.hist_Count [(x 3)]) (.call n.ref06_Count [(x 3)]))) (.call n.law06_flat [(.call n.hist_Flat [(x 3)]), (.call n.ref06_Flat [(x 3)])])) (.p (.eqs false [(.int .i64), (.int .i64)] (.t 0) (.t 1)) [(ldn 2 (x 7)), (ldn 2 (x 9))])) (.p (.beq false (.t 0) (.t 1)) [(x 8), (x 10)])) (eq (x 11) (x 13))) (.p (.beq false (.t 0) (.t 1)) [(x 12), (x 14)])) (.p (.beq false (.t 0) (.t 1)) [(.call n.hist_Same [(x 3), (x 4)]), (.call n.ref06_Same [(x 3), (x 4)])])))]) .ret))))))))⟩
def b.law06_HistJoins : BF := ⟨2, true, .scal, [.t 4], (.seq (.reg [] 3 []) (.seq (.ife [] 3 [] (.or (nt (.call n.ref06_Small [(x 0), (k 60)])) (nt (.call n.ref06_Small [(x 1), (k 60)]))) (.seq (.reg [] 16 [(4, (.call n.law06_awake []))]) .ret) .skip) (.seq (.reg [.eff [] 3 (some 15) (.l (.mks 1 false [.nil] 0 [])) [], .eff [] 3 (some 17) (apd 1 false 24) [(x 15), (x 0)], .eff [] 3 (some 19) (apd 1 false 24) [(x 17), (x 1)]] 35 [(5, (x 19))]) (.seq (.raw 16 [⟨(some 20), (.e (.call n.law06_awake [])), none, 0⟩, ⟨(some 21), (.p (.mov (.t 20))), none, 0⟩, ⟨(some 22), (.p (.mov (.t 5))), (some (21, true)), 0⟩, ⟨(some 23), (.e (.call n.hist_Flat [(.t 22)])), (some (21, true)), 0⟩, ⟨(some 24), (.l (.mks 3 true [(.bool false), (.str []), (.int .i64 0)] 0 [])), (some (21, true)), 0⟩, ⟨(some 25), (.p (.mov (.t 0))), (some (21, true)), 0⟩, ⟨(some 26), (.e (.call n.hist_Flat [(.t 25)])), (some (21, true)), 0⟩, ⟨(some 27), (.e (.app 3 true 32 (.t 24) (.t 26))), (some (21, true)), 0⟩, ⟨(some 28), (.p (.mov (.t 1))), (some (21, true)), 0⟩, ⟨(some 29), (.e (.call n.hist_Flat [(.t 28)])), (some (21, true)), 0⟩, ⟨(some 30), (.e (.app 3 true 32 (.t 27) (.t 29))), (some (21, true)), 0⟩, ⟨(some 31), (.e (.call n.law06_flat [(.t 23), (.t 30)])), (some (21, true)), 0⟩, ⟨(some 32), (.p (.pick (.t 21) (.t 31) (.c (.bool false)))), none, 0⟩, ⟨(some 33), (.p (.mov (.t 32))), none, 0⟩, ⟨(some 34), (.p (.mov (.t 5))), (some (33, true)), 0⟩, ⟨(some 35), (.e (.call n.hist_Count [(.t 34)])), (some (33, true)), 0⟩, ⟨(some 36), (.p (.mov (.t 0))), (some (33, true)), 0⟩, ⟨(some 37), (.e (.call n.hist_Count [(.t 36)])), (some (33, true)), 0⟩, ⟨(some 38), (.p (.mov (.t 1))), (some (33, true)), 0⟩, ⟨(some 39), (.e (.call n.hist_Count [(.t 38)])), (some (33, true)), 0⟩, ⟨(some 40), (.p (.bin .add (.t 37) (.t 39))), (some (33, true)), 0⟩, ⟨(some 41), (.p (.bin .eql (.t 35) (.t 40))), (some (33, true)), 0⟩, ⟨(some 42), (.p (.pick (.t 33) (.t 41) (.c (.bool false)))), none, 0⟩, ⟨(some 43), (.p (.mov (.t 42))), none, 0⟩, ⟨(some 44), (.p (.mov (.t 5))), (some (43, true)), 0⟩, ⟨(some 45), (.e (.call n.hist_Right [(.t 44)])), (some (43, true)), 0⟩, ⟨(some 46), (.p (.mov (.t 0))), (some (43, true)), 0⟩, ⟨(some 47), (.e (.call n.hist_Right [(.t 46)])), (some (43, true)), 0⟩, ⟨(some 48), (.p (.mov (.t 47))), (some (43, true)), 0⟩, ⟨(some 49), (.p (.mov (.t 1))), (some (48, true)), 0⟩, ⟨(some 50), (.e (.call n.hist_Right [(.t 49)])), (some (48, true)), 0⟩, ⟨(some 51), (.p (.pick (.t 48) (.t 50) (.c (.bool false)))), (some (43, true)), 0⟩, ⟨(some 52), (.p (.beq false (.t 45) (.t 51))), (some (43, true)), 0⟩, ⟨(some 53), (.p (.pick (.t 43) (.t 52) (.c (.bool false)))), none, 0⟩, ⟨(some 54), (.p (.mov (.t 53))), none, 0⟩, ⟨(some 55), (.p (.mov (.t 5))), (some (54, true)), 0⟩, ⟨(some 56), (.p (.mov (.t 0))), (some (54, true)), 0⟩, ⟨(some 57), (.p (.len false (.t 56))), (some (54, true)), 0⟩, ⟨(some 58), (.p (.slc 1 (.t 55) none (some (.t 57)))), (some (54, true)), 0⟩, ⟨(some 59), (.p (.mov (.t 0))), (some (54, true)), 0⟩, ⟨(some 60), (.e (.call n.hist_Same [(.t 58), (.t 59)])), (some (54, true)), 0⟩, ⟨(some 61), (.p (.pick (.t 54) (.t 60) (.c (.bool false)))), none, 0⟩, ⟨(some 4), (.p (.mov (.t 61))), none, 0⟩]) .ret))))⟩
def b.ref06_Small : BF := ⟨2, true, .scal, [.t 4], (.seq (.reg [] 3 []) (.seq (.ife [] 1 [] (.or (gt (len (x 0)) (x 1)) (gt (.call n.ref06_Count [(x 0)]) (x 1))) (.seq (.reg [] 16 [(4, (kb false))]) .ret) .skip) (.seq (.reg [] 32 [(5, (.call n.ref06_Flat [(x 0)]))]) (.seq (.seq (.reg [] 96 [(6, (k 0))]) (.block 0 (.loop (.seq (.ife [] 96 [] (lt (x 6) (len (x 5))) .skip (.exit 0)) (.seq (.block 1 (.ife [] 96 [] (gt (sln (ld (fa 1 (ia 3 (x 5) (x 6))))) (k 20)) (.seq (.reg [] 16 [(4, (kb false))]) .ret) .skip)) (.reg [] 96 [(6, (add (x 6) (k 1)))])))))) (.seq (.reg [] 16 [(4, (kb true))]) .ret)))))⟩
def b.law06_awake : BF := ⟨0, true, .scal, [.t 0], (.seq (.reg [] 0 []) (.seq (.reg [.eff [] 0 (some 7) (one 3 true [(.bool false), (.str []), (.int .i64 0)]) [(.p (.build [(.bool false), (.str []), (.int .i64 0)] [(0, 1, (.t 0)), (1, 1, (.t 1)), (2, 1, (.t 2))]) [(kb true), (.c (.str [120])), (k 1)])], .eff [] 128 (some 9) (one 3 true [(.bool false), (.str []), (.int .i64 0)]) [(.p (.build [(.bool false), (.str []), (.int .i64 0)] [(1, 1, (.t 0)), (2, 1, (.t 1))]) [(.c (.str [120])), (k 1)])], .eff [] 0 (some 10) (.l (.mks 1 false [.nil] 2 [(0, (.t 0)), (1, (.t 1))])) [(x 7), (x 9)]] 2 [(1, (x 10))]) (.seq (.reg [.eff [(15, (xt (.call n.hist_Spot [(x 1), (k 1)]) 1)), (14, (xt (.call n.hist_Spot [(x 1), (k 1)]) 0))] 49154 (some 2) (alo 2 true (.agg [(.int .i64 0), (.int .i64 0)])) [], .eff [] 32774 none (sto 2) [(x 2), (x 14)]] 14 [(3, (x 15))]) (.seq (.reg [] 62 [(5, (xt (.call n.hist_Number [(x 1), (ldn 2 (x 2))]) 1)), (4, (xt (.call n.hist_Number [(x 1), (ldn 2 (x 2))]) 0))]) (.seq (.reg [] 1 [(0, (.and (.and (.and (.and (.and (x 3) (.p (.eqs false [(.int .i64), (.int .i64)] (.t 0) (.t 1)) [(ldn 2 (x 2)), (.p (.build [(.int .i64 0), (.int .i64 0)] [(0, 1, (.t 0))]) [(k 1)])])) (x 5)) (eq (x 4) (k 1))) (.call n.hist_Right [(x 1)])) (eq (.call n.hist_Count [(x 1)]) (k 2))))]) .ret)))))⟩
def b.hist_Flat : BF := ⟨1, false, .froz, [.t 2], (.seq (.reg [] 1 []) (.seq (.reg [] 4 [(2, (.call n.slices_Concat___api_Op_api_Op [(x 0)]))]) .ret))⟩
def b.hist_Count : BF := ⟨1, true, .scal, [.t 2], (.seq (.reg [] 1 []) (.seq (.reg [] 9 [(3, (k 0))]) (.seq (.seq (.reg [] 456 [(8, (k 0)), (7, (len (x 0))), (6, (x 0))]) (.block 0 (.loop (.seq (.ife [] 456 [] (lt (x 8) (x 7)) .skip (.exit 0)) (.seq (.block 1 (.seq (.reg [] 488 [(5, (ld (ia 1 (x 6) (x 8))))]) (.reg [] 456 [(3, (add (x 3) (len (x 5))))]))) (.reg [] 456 [(8, (add (x 8) (k 1)))])))))) (.seq (.reg [] 4 [(2, (x 3))]) .ret))))⟩
def b.ref06_Spot : BF := ⟨2, true, .scal, [.cell 4 ⟨true, 2⟩, .t 5], (.seq (.reg [.eff [] 3 (some 4) (alo 2 true (.agg [(.int .i64 0), (.int .i64 0)])) []] 19 []) (.seq (.ife [] 19 [] (lt (x 1) (k 0)) (.seq (.reg [.eff [] 16 none (sto 2) [(x 4), (.p (.build [(.int .i64 0), (.int .i64 0)] []) [])]] 48 [(5, (kb false))]) .ret) .skip) (.seq (.seq (.reg [] 83 [(6, (k 0))]) (.block 0 (.loop (.seq (.ife [] 83 [] (lt (x 6) (len (x 0))) .skip (.exit 0)) (.seq (.block 1 (.seq (.ife [] 83 [] (lt (x 1) (len (ld (ia 1 (x 0) (x 6))))) (.seq (.reg [.eff [] 16 none (sto 2) [(x 4), (.p (.build [(.int .i64 0), (.int .i64 0)] [(0, 1, (.t 0)), (1, 1, (.t 1))]) [(x 6), (x 1)])]] 48 [(5, (kb true))]) .ret) .skip) (.reg [] 83 [(1, (sub (x 1) (len (ld (ia 1 (x 0) (x 6))))))]))) (.reg [] 83 [(6, (add (x 6) (k 1)))])))))) (.seq (.reg [.eff [] 16 none (sto 2) [(x 4), (.p (.build [(.int .i64 0), (.int .i64 0)] []) [])]] 48 [(5, (kb false))]) .ret))))⟩
def b.ref06_Number : BF := ⟨2, true, .scal, [.t 4, .t 5], (.seq (.reg [.eff [] 1 (some 3) (box 2 true) [(x 1)]] 9 []) (.seq (.ife [] 9 [] (.or (.or (.or (lt (ld (fa 0 (x 3))) (k 0)) (ge (ld (fa 0 (x 3))) (len (x 0)))) (lt (ld (fa 1 (x 3))) (k 0))) (ge (ld (fa 1 (x 3))) (len (ld (ia 1 (x 0) (ld (fa 0 (x 3)))))))) (.seq (.reg [] 48 [(5, (kb false)), (4, (k 0))]) .ret) .skip) (.seq (.reg [] 48 [(5, (kb true)), (4, (add (.call n.ref06_Count [(.p (.slc 1 (.t 0) none (some (.t 1))) [(x 0), (ld (fa 0 (x 3)))])]) (ld (fa 1 (x 3)))))]) .ret)))⟩
def b.hist_Right : BF := ⟨1, true, .scal, [.t 2], (.seq (.reg [] 1 []) (.seq (.reg [] 8 [(3, (.call n.hist_Flat [(x 0)]))]) (.seq (.reg [] 4 [(2, (.and (le (len (x 3)) (k 4096)) (nt (.call n.slices_ContainsFunc___api_Op_api_Op [(x 3), (.c (.fn n.hist_Right_1 [] []))]))))]) .ret)))⟩
def b.ref06_Right : BF := ⟨1, true, .scal, [.t 2], (.seq (.reg [] 1 []) (.seq (.reg [] 8 [(3, (.call n.ref06_Flat [(x 0)]))]) (.seq (.seq (.reg [] 24 [(4, (k 0))]) (.block 0 (.loop (.seq (.ife [] 24 [] (lt (x 4) (len (x 3))) .skip (.exit 0)) (.seq (.block 1 (.ife [] 24 [] (nt (.call n.ref06_Name [(ld (fa 1 (ia 3 (x 3) (x 4))))])) (.seq (.reg [] 4 [(2, (kb false))]) .ret) .skip)) (.reg [] 24 [(4, (add (x 4) (k 1)))])))))) (.seq (.reg [] 4 [(2, (le (len (x 3)) (k 4096)))]) .ret))))⟩
def b.ref06_Count : BF := ⟨1, true, .scal, [.t 2], (.seq (.reg [] 1 []) (.seq (.reg [] 4 [(2, (len (.call n.ref06_Flat [(x 0)])))]) .ret))⟩
def b.law06_flat : BF := ⟨2, true, .scal, [.t 4], (.seq (.reg [] 3 []) (.seq (.reg [.eff [] 2 (some 6) (one 1 false [.nil]) [(x 0)], .eff [] 64 (some 8) (one 1 false [.nil]) [(x 1)]] 16 [(4, (.call n.ref06_Same [(x 6), (x 8)]))]) .ret))⟩
def b.ref06_Flat : BF := ⟨1, true, .frozF, [.t 2], (.seq (.reg [] 1 []) (.seq (.reg [] 9 [(3, (.c .nil))]) (.seq (.seq (.reg [] 25 [(4, (k 0))]) (.block 0 (.loop (.seq (.ife [] 25 [] (lt (x 4) (len (x 0))) .skip (.exit 0)) (.seq (.block 1 (.reg [.eff [] 17 (some 16) (apd 3 true 32) [(x 3), (ld (ia 1 (x 0) (x 4)))]] 25 [(3, (x 16))])) (.reg [] 25 [(4, (add (x 4) (k 1)))])))))) (.seq (.reg [] 4 [(2, (x 3))]) .ret))))⟩
def b.hist_Same : BF := ⟨2, true, .scal, [.t 4], (.seq (.reg [] 3 []) (.seq (.reg [] 16 [(4, (.call n.slices_EqualFunc_____api_Op_____api_Op___api_Op___api_Op [(x 0), (x 1), (.c (.fn n.hist_Same_1 [] []))]))]) .ret))⟩
def b.ref06_Same : BF := ⟨2, true, .scal, [.t 4], (.seq (.reg [] 3 []) (.seq (.ife [] 3 [] (ne (len (x 0)) (len (x 1))) (.seq (.reg [] 16 [(4, (kb false))]) .ret) .skip) (.seq (.seq (.reg [] 35 [(5, (k 0))]) (.block 0 (.loop (.seq (.ife [] 35 [] (lt (x 5) (len (x 0))) .skip (.exit 0)) (.seq (.block 1 (.seq (.ife [] 35 [] (ne (len (ld (ia 1 (x 0) (x 5)))) (len (ld (ia 1 (x 1) (x 5))))) (.seq (.reg [] 16 [(4, (kb false))]) .ret) .skip) (.seq (.reg [] 99 [(6, (k 0))]) (.block 2 (.loop (.seq (.ife [] 99 [] (lt (x 6) (len (ld (ia 1 (x 0) (x 5))))) .skip (.exit 2)) (.seq (.block 3 (.ife [] 99 [] (.p (.eqs true [.bool, .str, (.int .i64)] (.t 0) (.t 1)) [(ldn 3 (ia 3 (ld (ia 1 (x 0) (x 5))) (x 6))), (ldn 3 (ia 3 (ld (ia 1 (x 1) (x 5))) (x 6)))]) (.seq (.reg [] 16 [(4, (kb false))]) .ret) .skip)) (.reg [] 99 [(6, (add (x 6) (k 1)))])))))))) (.reg [] 35 [(5, (add (x 5) (k 1)))])))))) (.seq (.reg [] 16 [(4, (kb true))]) .ret))))⟩
def b.slices_Concat___api_Op_api_Op : BF := ⟨1, true, .frozF, [.t 2], (.seq (.reg [] 1 []) (.seq (.reg [] 9 [(3, (k 0))]) (.seq (.seq (.reg [] 3593 [(11, (k 0)), (10, (len (x 0))), (9, (x 0))]) (.block 0 (.loop (.seq (.ife [] 3593 [] (lt (x 11) (x 10)) .skip (.exit 0)) (.seq (.block 1 (.seq (.reg [] 3625 [(5, (ld (ia 1 (x 9) (x 11))))]) (.seq (.reg [] 3593 [(3, (add (x 3) (len (x 5))))]) (.ife [] 3593 [] (lt (x 3) (k 0)) .stuck .skip)))) (.reg [] 3593 [(11, (add (x 11) (k 1)))])))))) (.seq (.reg [.eff [] 1 (some 24) (.call n.slices_Grow___api_Op_api_Op) [(.c .nil), (x 3)]] 65 [(6, (x 24))]) (.seq (.seq (.reg [] 234881088 [(27, (k 0)), (26, (len (x 0))), (25, (x 0))]) (.block 2 (.loop (.seq (.ife [] 234881088 [] (lt (x 27) (x 26)) .skip (.exit 2)) (.seq (.block 3 (.seq (.reg [] 234881344 [(8, (ld (ia 1 (x 25) (x 27))))]) (.reg [.eff [] 234881024 (some 33) (apd 3 true 32) [(x 6), (x 8)]] 234881088 [(6, (x 33))]))) (.reg [] 234881088 [(27, (add (x 27) (k 1)))])))))) (.seq (.reg [] 4 [(2, (x 6))]) .ret))))))⟩
def b.hist_spots : BF := ⟨1, true, .froz, [.t 2], (.seq (.reg [.eff [] 0 (some 1) (box 1 false) [(x 0)]] 2 []) (.seq (.reg [] 4 [(2, (.p (.mkfn n.hist_spots_1 [] [(.t 0)]) [(x 1)]))]) .ret))⟩
def b.slices_ContainsFunc___api_Op_api_Op : BF := ⟨2, false, .froz, [.t 4], (.seq (.reg [] 3 []) (.seq (.reg [] 16 [(4, (ge (.call n.slices_IndexFunc___api_Op_api_Op [(x 0), (x 1)]) (k 0)))]) .ret))⟩
def b.hist_Right_1 : BF := ⟨1, true, .scal, [.t 2], (.seq (.reg [.eff [] 0 (some 1) (box 3 true) [(x 0)]] 2 []) (.seq (.reg [] 4 [(2, (nt (.call n.hist_named [(ld (fa 1 (x 1)))])))]) .ret))⟩
def b.hist_named : BF := ⟨1, true, .scal, [.t 2], (.seq (.reg [] 1 []) (.seq (.reg [] 4 [(2, (.and (.and (ne (x 0) (.c (.str []))) (le (sln (x 0)) (k 8))) (eq (.call n.strings_Trim [(x 0), (.c (.str [97, 98, 99, 100, 101, 102, 103, 104, 105, 106, 107, 108, 109, 110, 111, 112, 113, 114, 115, 116, 117, 118, 119, 120, 121, 122]))]) (.c (.str [])))))]) .ret))⟩
def b.ref06_Name : BF := ⟨1, true, .scal, [.t 2], (.seq (.reg [] 1 []) (.seq (.seq (.reg [] 9 [(3, (k 0))]) (.block 0 (.loop (.seq (.ife [] 9 [] (lt (x 3) (sln (x 0))) .skip (.exit 0)) (.seq (.block 1 (.ife [] 9 [] (.or (lt (ix (x 0) (x 3)) (kc 97)) (gt (ix (x 0) (x 3)) (kc 122))) (.seq (.reg [] 4 [(2, (kb false))]) .ret) .skip)) (.reg [] 9 [(3, (add (x 3) (k 1)))])))))) (.seq (.reg [] 4 [(2, (.and (ge (sln (x 0)) (k 1)) (le (sln (x 0)) (k 8))))]) .ret)))⟩
def b.slices_EqualFunc_____api_Op_____api_Op___api_Op___api_Op : BF := ⟨3, false, .froz, [.t 6], (.seq (.reg [] 7 []) (.seq (.ife [] 7 [] (ne (len (x 0)) (len (x 1))) (.seq (.reg [] 64 [(6, (kb false))]) .ret) .skip) (.seq (.seq (.reg [] 229382 [(17, (k 0)), (16, (len (x 0))), (15, (x 0))]) (.block 0 (.loop (.seq (.ife [] 229382 [] (lt (x 17) (x 16)) .skip (.exit 0)) (.seq (.block 1 (.seq (.reg [] 229766 [(8, (ld (ia 1 (x 15) (x 17)))), (7, (x 17))]) (.seq (.reg [] 230150 [(9, (ld (ia 1 (x 1) (x 7))))]) (.ife [] 229382 [] (nt (.callv [(x 2), (x 8), (x 9)])) (.seq (.reg [] 64 [(6, (kb false))]) .ret) .skip)))) (.reg [] 229382 [(17, (add (x 17) (k 1)))])))))) (.seq (.reg [] 64 [(6, (kb true))]) .ret))))⟩
def b.hist_Same_1 : BF := ⟨2, true, .scal, [.t 4], (.seq (.reg [] 3 []) (.seq (.reg [] 16 [(4, (.call n.slices_Equal___api_Op_api_Op [(x 0), (x 1)]))]) .ret))⟩
def b.slices_Equal___api_Op_api_Op : BF := ⟨2, true, .scal, [.t 4], (.seq (.reg [] 3 []) (.seq (.ife [] 3 [] (ne (len (x 0)) (len (x 1))) (.seq (.reg [] 16 [(4, (kb false))]) .ret) .skip) (.seq (.seq (.reg [] 12291 [(13, (k 0)), (12, (len (x 0)))]) (.block 0 (.loop (.seq (.ife [] 12291 [] (lt (x 13) (x 12)) .skip (.exit 0)) (.seq (.block 1 (.seq (.reg [] 12323 [(5, (x 13))]) (.ife [] 12291 [] (.p (.eqs true [.bool, .str, (.int .i64)] (.t 0) (.t 1)) [(ldn 3 (ia 3 (x 0) (x 5))), (ldn 3 (ia 3 (x 1) (x 5)))]) (.seq (.reg [] 16 [(4, (kb false))]) .ret) .skip))) (.reg [] 12291 [(13, (add (x 13) (k 1)))])))))) (.seq (.reg [] 16 [(4, (kb true))]) .ret))))⟩
def b.hist_spots_1 : BF := ⟨2, true, .froz, [], (.seq (.reg [] 449 [(8, (k 0)), (7, (len (ld (x 1)))), (6, (ld (x 1)))]) (.block 0 (.loop (.seq (.ife [] 449 [] (lt (x 8) (x 7)) .skip (.exit 0)) (.seq (.block 1 (.seq (.reg [] 473 [(4, (ld (ia 1 (x 6) (x 8)))), (3, (x 8))]) (.seq (.reg [] 49609 [(15, (k 0)), (14, (len (x 4)))]) (.block 2 (.loop (.seq (.ife [] 49609 [] (lt (x 15) (x 14)) .skip (.exit 2)) (.seq (.block 3 (.seq (.reg [] 49641 [(5, (x 15))]) (.ife [] 49609 [] (nt (.callv [(x 0), (.p (.build [(.int .i64 0), (.int .i64 0)] [(0, 1, (.t 0)), (1, 1, (.t 1))]) [(x 3), (x 5)])])) .ret .skip))) (.reg [] 49609 [(15, (add (x 15) (k 1)))])))))))) (.reg [] 449 [(8, (add (x 8) (k 1)))]))))))⟩
def b.slices_IndexFunc___api_Op_api_Op : BF := ⟨2, false, .froz, [.t 4], (.seq (.reg [] 3 []) (.seq (.seq (.reg [] 387 [(8, (k 0)), (7, (len (x 0)))]) (.block 0 (.loop (.seq (.ife [] 387 [] (lt (x 8) (x 7)) .skip (.exit 0)) (.seq (.block 1 (.seq (.reg [] 419 [(5, (x 8))]) (.ife [] 419 [] (.callv [(x 1), (ldn 3 (ia 3 (x 0) (x 5)))]) (.seq (.reg [] 16 [(4, (x 5))]) .ret) .skip))) (.reg [] 387 [(8, (add (x 8) (k 1)))])))))) (.seq (.reg [] 16 [(4, (k (-1)))]) .ret)))⟩
def b.strings_Trim : BF := ⟨2, true, .scal, [.t 4], (.seq (.reg [] 3 []) (.seq (.ife [] 3 [] (.or (eq (x 0) (.c (.str []))) (eq (x 1) (.c (.str [])))) (.seq (.reg [] 16 [(4, (x 0))]) .ret) .skip) (.seq (.ife [] 3 [] (.and (eq (sln (x 1)) (k 1)) (lt (ix (x 1) (k 0)) (kc 128))) (.seq (.reg [] 16 [(4, (.call n.strings_trimLeftByte [(.call n.strings_trimRightByte [(x 0), (ix (x 1) (k 0))]), (ix (x 1) (k 0))]))]) .ret) .skip) (.seq (.seq (.reg [.eff [(33, (xt (.call n.strings_makeASCIISet [(x 1)]) 1)), (32, (xt (.call n.strings_makeASCIISet [(x 1)]) 0))] 12884901891 (some 5) (alo 256 true (.agg (List.replicate 256 (.bool false)))) [], .eff [] 8589934627 none (sto 256) [(x 5), (x 32)]] 99 [(6, (x 33))]) (.ife [] 35 [] (x 6) (.seq (.reg [] 16 [(4, (.call n.strings_trimLeftASCII [(.call n.strings_trimRightASCII [(x 0), (x 5)]), (x 5)]))]) .ret) .skip)) (.seq (.reg [] 16 [(4, (.call n.strings_trimLeftUnicode [(.call n.strings_trimRightUnicode [(x 0), (x 1)]), (x 1)]))]) .ret)))))⟩
def b.strings_trimLeftByte : BF := ⟨2, true, .froz, [.t 4], (.seq (.reg [] 3 []) (.seq (.block 0 (.loop (.seq (.ife [] 3 [] (.and (gt (sln (x 0)) (k 0)) (eq (ix (x 0) (k 0)) (x 1))) .skip (.exit 0)) (.block 1 (.reg [] 3 [(0, (.p (.sls (.t 0) (some (.t 1)) none) [(x 0), (k 1)]))]))))) (.seq (.reg [] 16 [(4, (x 0))]) .ret)))⟩
def b.strings_trimRightByte : BF := ⟨2, true, .froz, [.t 4], (.seq (.reg [] 3 []) (.seq (.block 0 (.loop (.seq (.ife [] 3 [] (.and (gt (sln (x 0)) (k 0)) (eq (ix (x 0) (sub (sln (x 0)) (k 1))) (x 1))) .skip (.exit 0)) (.block 1 (.reg [] 3 [(0, (.p (.sls (.t 0) none (some (.t 1))) [(x 0), (sub (sln (x 0)) (k 1))]))]))))) (.seq (.reg [] 16 [(4, (x 0))]) .ret)))⟩
def b.strings_makeASCIISet : BF := ⟨1, true, .froz, [.cell 2 ⟨true, 256⟩, .t 3], (.seq (.reg [.eff [] 1 (some 2) (alo 256 true (.agg (List.replicate 256 (.bool false)))) []] 5 []) (.seq (.seq (.reg [] 21 [(4, (k 0))]) (.block 0 (.loop (.seq (.ife [] 21 [] (lt (x 4) (sln (x 0))) .skip (.exit 0)) (.seq (.block 1 (.seq (.reg [] 53 [(5, (ix (x 0) (x 4)))]) (.seq (.ife [] 53 [] (ge (x 5) (kc 128)) (.seq (.reg [.eff [] 4 none (sto 256) [(x 2), (ldn 256 (x 2))]] 12 [(3, (kb false))]) .ret) .skip) (.reg [.eff [] 21 none (sto 1) [(.p (.iar 256 1 (.t 0) (.t 1)) [(x 2), (x 5)]), (kb true)]] 21 [])))) (.reg [] 21 [(4, (add (x 4) (k 1)))])))))) (.seq (.reg [.eff [] 4 none (sto 256) [(x 2), (ldn 256 (x 2))]] 12 [(3, (kb true))]) .ret)))⟩
def b.strings_trimLeftASCII : BF := ⟨2, false, .froz, [.t 4], (.seq (.reg [] 3 []) (.seq (.block 0 (.loop (.seq (.ife [] 3 [] (gt (sln (x 0)) (k 0)) .skip (.exit 0)) (.block 1 (.seq (.ife [] 3 [] (nt (.call n.strings_asciiSet__contains [(x 1), (ix (x 0) (k 0))])) (.exit 0) .skip) (.reg [] 3 [(0, (.p (.sls (.t 0) (some (.t 1)) none) [(x 0), (k 1)]))])))))) (.seq (.reg [] 16 [(4, (x 0))]) .ret)))⟩
def b.strings_trimRightASCII : BF := ⟨2, false, .froz, [.t 4], (.seq (.reg [] 3 []) (.seq (.block 0 (.loop (.seq (.ife [] 3 [] (gt (sln (x 0)) (k 0)) .skip (.exit 0)) (.block 1 (.seq (.ife [] 3 [] (nt (.call n.strings_asciiSet__contains [(x 1), (ix (x 0) (sub (sln (x 0)) (k 1)))])) (.exit 0) .skip) (.reg [] 3 [(0, (.p (.sls (.t 0) none (some (.t 1))) [(x 0), (sub (sln (x 0)) (k 1))]))])))))) (.seq (.reg [] 16 [(4, (x 0))]) .ret)))⟩
def b.strings_trimLeftUnicode : BF := ⟨2, true, .froz, [.t 4], (.seq (.reg [] 3 []) (.seq (.block 0 (.loop (.seq (.ife [] 3 [] (gt (sln (x 0)) (k 0)) .skip (.exit 0)) (.block 1 (.seq (.reg [] 99 [(6, (xt (.call 42 [(x 0)]) 1)), (5, (xt (.call 42 [(x 0)]) 0))]) (.seq (.ife [] 67 [] (nt (.call n.strings_ContainsRune [(x 1), (x 5)])) (.exit 0) .skip) (.reg [] 3 [(0, (.p (.sls (.t 0) (some (.t 1)) none) [(x 0), (x 6)]))]))))))) (.seq (.reg [] 16 [(4, (x 0))]) .ret)))⟩
def b.strings_trimRightUnicode : BF := ⟨2, true, .froz, [.t 4], (.seq (.reg [] 3 []) (.seq (.block 0 (.loop (.seq (.ife [] 3 [] (gt (sln (x 0)) (k 0)) .skip (.exit 0)) (.block 1 (.seq (.reg [] 99 [(6, (k 1)), (5, (.p (.conv .i32 (.t 0)) [(ix (x 0) (sub (sln (x 0)) (k 1)))]))]) (.seq (.ife [] 99 [] (ge (x 5) (.c (.int .i32 128))) (.reg [] 99 [(6, (xt (.call 44 [(x 0)]) 1)), (5, (xt (.call 44 [(x 0)]) 0))]) .skip) (.seq (.ife [] 67 [] (nt (.call n.strings_ContainsRune [(x 1), (x 5)])) (.exit 0) .skip) (.reg [] 3 [(0, (.p (.sls (.t 0) none (some (.t 1))) [(x 0), (sub (sln (x 0)) (x 6))]))])))))))) (.seq (.reg [] 16 [(4, (x 0))]) .ret)))⟩
def b.strings_asciiSet__contains : BF := ⟨2, false, .froz, [.t 4], (.seq (.reg [] 3 []) (.seq (.reg [] 16 [(4, (ld (.p (.iar 256 1 (.t 0) (.t 1)) [(nk (x 0)), (x 1)])))]) .ret))⟩
def b.strings_ContainsRune : BF := ⟨2, true, .froz, [.t 4], (.seq (.reg [] 3 []) (.seq (.reg [] 16 [(4, (ge (.call 46 [(x 0), (x 1)]) (k 0)))]) .ret))⟩
def b.strings_IndexByte : BF := ⟨2, true, .froz, [.t 4], (.seq (.reg [] 3 []) (.seq (.reg [] 16 [(4, (.call 52 [(x 0), (x 1)]))]) .ret))⟩
def effs : List Nat := [30]
end Go.AM

set_option linter.unusedVariables false
namespace Go.AM
open Go.Proofs
theorem r.law06_HistBack : rowOk Tryd.prog effs n.law06_HistBack false b.law06_HistBack = true := by kernel_rfl
theorem r.law06_HistTells : rowOk Tryd.prog effs n.law06_HistTells false b.law06_HistTells = true := by kernel_rfl
theorem r.law06_HistJoins : rowOk Tryd.prog effs n.law06_HistJoins false b.law06_HistJoins = true := by kernel_rfl
theorem r.ref06_Small : rowOk Tryd.prog effs n.ref06_Small false b.ref06_Small = true := by kernel_rfl
theorem r.law06_awake : rowOk Tryd.prog effs n.law06_awake false b.law06_awake = true := by kernel_rfl
theorem r.hist_Flat : rowOk Tryd.prog effs n.hist_Flat false b.hist_Flat = true := by kernel_rfl
theorem r.hist_Count : rowOk Tryd.prog effs n.hist_Count false b.hist_Count = true := by kernel_rfl
theorem cc.hist_Spot : canCall Tryd.prog n.hist_Spot = true := by kernel_rfl
theorem cc.hist_Number : canCall Tryd.prog n.hist_Number = true := by kernel_rfl
theorem r.ref06_Spot : rowOk Tryd.prog effs n.ref06_Spot false b.ref06_Spot = true := by kernel_rfl
theorem r.ref06_Number : rowOk Tryd.prog effs n.ref06_Number false b.ref06_Number = true := by kernel_rfl
theorem r.hist_Right : rowOk Tryd.prog effs n.hist_Right false b.hist_Right = true := by kernel_rfl
theorem r.ref06_Right : rowOk Tryd.prog effs n.ref06_Right false b.ref06_Right = true := by kernel_rfl
theorem r.ref06_Count : rowOk Tryd.prog effs n.ref06_Count false b.ref06_Count = true := by kernel_rfl
theorem r.law06_flat : rowOk Tryd.prog effs n.law06_flat false b.law06_flat = true := by kernel_rfl
theorem r.ref06_Flat : rowOk Tryd.prog effs n.ref06_Flat false b.ref06_Flat = true := by kernel_rfl
theorem r.hist_Same : rowOk Tryd.prog effs n.hist_Same false b.hist_Same = true := by kernel_rfl
theorem r.ref06_Same : rowOk Tryd.prog effs n.ref06_Same false b.ref06_Same = true := by kernel_rfl
theorem r.slices_Concat___api_Op_api_Op : rowOk Tryd.prog effs n.slices_Concat___api_Op_api_Op false b.slices_Concat___api_Op_api_Op = true := by kernel_rfl
theorem r.hist_spots : rowOk Tryd.prog effs n.hist_spots false b.hist_spots = true := by kernel_rfl
theorem r.slices_ContainsFunc___api_Op_api_Op : rowOk Tryd.prog effs n.slices_ContainsFunc___api_Op_api_Op false b.slices_ContainsFunc___api_Op_api_Op = true := by kernel_rfl
theorem r.hist_Right_1 : rowOk Tryd.prog effs n.hist_Right_1 false b.hist_Right_1 = true := by kernel_rfl
theorem r.hist_named : rowOk Tryd.prog effs n.hist_named false b.hist_named = true := by kernel_rfl
theorem r.ref06_Name : rowOk Tryd.prog effs n.ref06_Name false b.ref06_Name = true := by kernel_rfl
theorem r.slices_EqualFunc_____api_Op_____api_Op___api_Op___api_Op : rowOk Tryd.prog effs n.slices_EqualFunc_____api_Op_____api_Op___api_Op___api_Op false b.slices_EqualFunc_____api_Op_____api_Op___api_Op___api_Op = true := by kernel_rfl
theorem r.hist_Same_1 : rowOk Tryd.prog effs n.hist_Same_1 false b.hist_Same_1 = true := by kernel_rfl
theorem r.slices_Equal___api_Op_api_Op : rowOk Tryd.prog effs n.slices_Equal___api_Op_api_Op false b.slices_Equal___api_Op_api_Op = true := by kernel_rfl
theorem cc.slices_Grow___api_Op_api_Op : canCall Tryd.prog n.slices_Grow___api_Op_api_Op = true := by kernel_rfl
theorem r.hist_spots_1 : rowOk Tryd.prog effs n.hist_spots_1 false b.hist_spots_1 = true := by kernel_rfl
theorem r.slices_IndexFunc___api_Op_api_Op : rowOk Tryd.prog effs n.slices_IndexFunc___api_Op_api_Op false b.slices_IndexFunc___api_Op_api_Op = true := by kernel_rfl
theorem r.strings_Trim : rowOk Tryd.prog effs n.strings_Trim false b.strings_Trim = true := by kernel_rfl
theorem r.strings_trimLeftByte : rowOk Tryd.prog effs n.strings_trimLeftByte false b.strings_trimLeftByte = true := by kernel_rfl
theorem r.strings_trimRightByte : rowOk Tryd.prog effs n.strings_trimRightByte false b.strings_trimRightByte = true := by kernel_rfl
theorem r.strings_makeASCIISet : rowOk Tryd.prog effs n.strings_makeASCIISet false b.strings_makeASCIISet = true := by kernel_rfl
theorem r.strings_trimLeftASCII : rowOk Tryd.prog effs n.strings_trimLeftASCII false b.strings_trimLeftASCII = true := by kernel_rfl
theorem r.strings_trimRightASCII : rowOk Tryd.prog effs n.strings_trimRightASCII false b.strings_trimRightASCII = true := by kernel_rfl
theorem r.strings_trimLeftUnicode : rowOk Tryd.prog effs n.strings_trimLeftUnicode false b.strings_trimLeftUnicode = true := by kernel_rfl
theorem r.strings_trimRightUnicode : rowOk Tryd.prog effs n.strings_trimRightUnicode false b.strings_trimRightUnicode = true := by kernel_rfl
theorem r.strings_asciiSet__contains : rowOk Tryd.prog effs n.strings_asciiSet__contains false b.strings_asciiSet__contains = true := by kernel_rfl
theorem r.strings_ContainsRune : rowOk Tryd.prog effs n.strings_ContainsRune false b.strings_ContainsRune = true := by kernel_rfl
theorem r.strings_IndexByte : rowOk Tryd.prog effs n.strings_IndexByte false b.strings_IndexByte = true := by kernel_rfl
def tab : List (Nat × Row) := [(n.law06_HistBack, .fn false b.law06_HistBack), (n.law06_HistTells, .fn false b.law06_HistTells), (n.law06_HistJoins, .fn false b.law06_HistJoins), (n.ref06_Small, .fn false b.ref06_Small), (n.law06_awake, .fn false b.law06_awake), (n.hist_Flat, .fn false b.hist_Flat), (n.hist_Count, .fn false b.hist_Count), (n.hist_Spot, .ext gSpot), (n.hist_Number, .ext gNum), (n.ref06_Spot, .fn false b.ref06_Spot), (n.ref06_Number, .fn false b.ref06_Number), (n.hist_Right, .fn false b.hist_Right), (n.ref06_Right, .fn false b.ref06_Right), (n.ref06_Count, .fn false b.ref06_Count), (n.law06_flat, .fn false b.law06_flat), (n.ref06_Flat, .fn false b.ref06_Flat), (n.hist_Same, .fn false b.hist_Same), (n.ref06_Same, .fn false b.ref06_Same), (n.slices_Concat___api_Op_api_Op, .fn false b.slices_Concat___api_Op_api_Op), (n.hist_spots, .fn false b.hist_spots), (n.slices_ContainsFunc___api_Op_api_Op, .fn false b.slices_ContainsFunc___api_Op_api_Op), (n.hist_Right_1, .fn false b.hist_Right_1), (n.hist_named, .fn false b.hist_named), (n.ref06_Name, .fn false b.ref06_Name), (n.slices_EqualFunc_____api_Op_____api_Op___api_Op___api_Op, .fn false b.slices_EqualFunc_____api_Op_____api_Op___api_Op___api_Op), (n.hist_Same_1, .fn false b.hist_Same_1), (n.slices_Equal___api_Op_api_Op, .fn false b.slices_Equal___api_Op_api_Op), (n.slices_Grow___api_Op_api_Op, .ext gGrow), (n.hist_spots_1, .fn false b.hist_spots_1), (n.slices_IndexFunc___api_Op_api_Op, .fn false b.slices_IndexFunc___api_Op_api_Op), (n.strings_Trim, .fn false b.strings_Trim), (n.strings_trimLeftByte, .fn false b.strings_trimLeftByte), (n.strings_trimRightByte, .fn false b.strings_trimRightByte), (n.strings_makeASCIISet, .fn false b.strings_makeASCIISet), (n.strings_trimLeftASCII, .fn false b.strings_trimLeftASCII), (n.strings_trimRightASCII, .fn false b.strings_trimRightASCII), (n.strings_trimLeftUnicode, .fn false b.strings_trimLeftUnicode), (n.strings_trimRightUnicode, .fn false b.strings_trimRightUnicode), (n.strings_asciiSet__contains, .fn false b.strings_asciiSet__contains), (n.strings_ContainsRune, .fn false b.strings_ContainsRune), (n.strings_IndexByte, .fn false b.strings_IndexByte)]
theorem tabOk : AllR Tryd.prog effs tab := .cons r.law06_HistBack (.cons r.law06_HistTells (.cons r.law06_HistJoins (.cons r.ref06_Small (.cons r.law06_awake (.cons r.hist_Flat (.cons r.hist_Count (.cons ⟨cc.hist_Spot, spot_ok⟩ (.cons ⟨cc.hist_Number, number_ok'⟩ (.cons r.ref06_Spot (.cons r.ref06_Number (.cons r.hist_Right (.cons r.ref06_Right (.cons r.ref06_Count (.cons r.law06_flat (.cons r.ref06_Flat (.cons r.hist_Same (.cons r.ref06_Same (.cons r.slices_Concat___api_Op_api_Op (.cons r.hist_spots (.cons r.slices_ContainsFunc___api_Op_api_Op (.cons r.hist_Right_1 (.cons r.hist_named (.cons r.ref06_Name (.cons r.slices_EqualFunc_____api_Op_____api_Op___api_Op___api_Op (.cons r.hist_Same_1 (.cons r.slices_Equal___api_Op_api_Op (.cons ⟨cc.slices_Grow___api_Op_api_Op, grow_ok⟩ (.cons r.hist_spots_1 (.cons r.slices_IndexFunc___api_Op_api_Op (.cons r.strings_Trim (.cons r.strings_trimLeftByte (.cons r.strings_trimRightByte (.cons r.strings_makeASCIISet (.cons r.strings_trimLeftASCII (.cons r.strings_trimRightASCII (.cons r.strings_trimLeftUnicode (.cons r.strings_trimRightUnicode (.cons r.strings_asciiSet__contains (.cons r.strings_ContainsRune (.cons r.strings_IndexByte (.nil)))))))))))))))))))))))))))))))))))))))))
noncomputable abbrev T0 : Nat → Option Fn := tblOf Tryd.prog tab
theorem T0ok : TblOK Tryd.prog T0 := tblOf_ok tabOk
end Go.AM

