/- Part TA of the proof. -/
import Derived.Test.YthhgiappgpeloaaDoorA2
import Derived.Test.YthhgiappgpeloaaDoorProg
import Derived.WalkKit
import Derived.Lib.AppendZeros
import Derived.Lib.AppendZerosOnto
import Derived.Deep.DeepMust
import Derived.Shelf.LaysM
import Derived.Shelf.Strconv.Itoa3
import Derived.Lib.ItoaNum
import Derived.Shelf.Strings.OnBuilder
import Derived.Lib.Join
import Derived.Shelf.Spec.TrailingZeros
import Derived.Lib.Builder
import Derived.Lib.AppendStr
import Derived.Lib.UnsafeStr
import Derived.Lib.FrozenHead
import Derived.Laws.AppendOwn
import Derived.Laws.Externs
import Derived.Laws.IdiomCopy
import Derived.Shelf.Abstract
import Derived.Shelf.RegionOpen
import Derived.Shelf.RegionOpenPlain
import Derived.Test.YthhgiappgpeloaaDoorA3
import Derived.KernelRfl
/- slices.Grow of nil, walked: a row with room. -/
set_option linter.unusedVariables false
set_option linter.unusedSimpArgs false
namespace Go.AM
open Go.RowKit Go.Proofs
theorem info51 : (Tryd.prog.info? 51).map (fun i => (i.zero, i.size, i.bytes)) = some (some (.agg #[.bool false, .string .empty, .int .i64 0]), 3, 32) := by kernel_rfl
theorem opsGrow0 (w : World) : Calls Tryd.prog 69 #[.slice none 0 0, .int .i64 ((0 : Nat) : Int)] w fun e w' => e = .returned (.slice none 0 0) ∧ w' = w := by
  have h2 : wrap64 (((0 : Nat) : Int) - wrap64 (0 - 0)) = ((0 : Nat) : Int) := by unfold wrap64; omega
  have h3 : wrap64 (0 - 0) = 0 := by unfold wrap64; omega
  go_enter Tryd.func69, Tryd.ntmps69
  go_wp2
  go_ret
  exact ⟨rfl, rfl⟩
set_option maxHeartbeats 2000000 in
set_option maxRecDepth 100000 in
theorem opsGrow1 (n : Nat) (w : World) (hn : n < 4398046511104) (h4 : ¬ n = 0) :
    Calls Tryd.prog 69 #[.slice none 0 0, .int .i64 (n : Int)] w fun e w' => ∃ (G : Nat) (cs : Array Value), e = .returned (.slice (some ⟨w.heap.size, 0, none⟩) 0 G) ∧ w' = (w.alloc (.cells cs 51 (0, 0))).drew ∧ cs.size = G * 3 := by
  have h1 : ¬ ((n : Int) < 0) := by omega
  have h2 : wrap64 ((n : Int) - wrap64 (0 - 0)) = (n : Int) := by unfold wrap64; omega
  have h3 : wrap64 (0 - 0) = 0 := by unfold wrap64; omega
  have h5 : wrap64 (n : Int) = (n : Int) := by unfold wrap64; omega
  have hp : ((n : Int) > 0) := by omega
  obtain ⟨i0, hi0, hzz⟩ := Option.map_eq_some_iff.1 info51
  simp only [Prod.mk.injEq] at hzz
  obtain ⟨hz0, hz1, hz2⟩ := hzz
  have hrz := fun ty => Lib.run_append_grow_zeros w 81 3 ty 51 i0 _ .i64 .i64 Tryd.underlying81 Tryd.underlying3 hi0 hz0 none 0 0 [] (run_firstCells_none w.drew i0.size 0 0 0) n (by omega) (by omega) (by omega) (by omega) (by rw [hz2]; omega)
      (by rw [hz2]; exact growslice_fits (by omega) (by omega))
  simp only [Nat.zero_add] at hrz
  have hGn : n ≤ grownCap w n 0 51 := grownCap_ge w _ _ _
  obtain ⟨G, hG⟩ : ∃ G, G = grownCap w n 0 51 := ⟨_, rfl⟩
  rw [← hG] at hrz hGn
  clear hG
  go_enter Tryd.func69, Tryd.ntmps69
  go_wp2_with (at_builtin; refine Lib.wpList_append_run _ rfl _ _ _ _ rfl _ _ rfl rfl _ _ (hrz _) ?_)
  all_goals
    go_ret
    refine ⟨G, rfl, _, rfl, ?_⟩
    simp only [Array.size_append, List.size_toArray, List.length_nil, size_zeroCells]
    show n * 3 + (G - n) * 3 = G * 3
    omega
def gGrow : List V → Heap → Option (V × Heap)
  | [.nil, .int .i64 n], H => if n = 0 then some (.nil, H) else if 0 < n ∧ n < 4398046511104 then some (.ref H.length 3 0 0, H ++ [.row 3 true []]) else none
  | _, _ => none
theorem grow_ok : ∀ args H v H', gGrow args H = some (v, H') → H.length ≤ H'.length ∧ ∀ (μ : Mu) (S : Nat → Prop) (w : World) (cargs : Array Value), Inv μ S H w → VRels μ S w args cargs.toList →
    Calls Tryd.prog 69 cargs w fun e w' => ∃ cv μ' S', e = .returned cv ∧ VRel μ' S' w' v cv ∧ Inv μ' S' H' w' ∧ Ext μ S H w μ' S' H' w' := by
  intro args H v H' h
  unfold gGrow at h
  split at h
  · rename_i n
    have cargs_of : ∀ {μ : Mu} {S : Nat → Prop} {w : World} {cargs : Array Value}, VRels μ S w [.nil, .int .i64 n] cargs.toList → cargs = #[.slice none 0 0, .int .i64 n] := fun {μ S w cargs} ha => by
      obtain ⟨l⟩ := cargs
      cases ha with
      | cons h1 h2 => cases h2 with
        | cons h2 h3 => cases h1; cases h2; cases h3; rfl
    split at h
    · rename_i h0
      subst h0
      injection h with h; injection h with e1 e2; subst e1; subst e2
      refine ⟨Nat.le_refl _, fun μ S w cargs I ha => ?_⟩
      obtain rfl := cargs_of ha
      exact Calls.mono (opsGrow0 w) fun e w' ⟨he, hw⟩ => ⟨_, μ, S, he, .nil, hw ▸ I, hw ▸ Ext.refl _ _ _ _⟩
    · split at h
      · rename_i h0 h1
        injection h with h; injection h with e1 e2; subst e1; subst e2
        refine ⟨by simp, fun μ S w cargs I ha => ?_⟩
        obtain rfl := cargs_of ha
        have hn := opsGrow1 n.toNat w (by omega) (by omega)
        rw [show ((n.toNat : Nat) : Int) = n by omega] at hn
        refine Calls.mono hn fun e w' ⟨G, cs, he, hw, hs⟩ => ?_
        subst hw
        obtain ⟨i, x⟩ := I.push (.row 3 true []) (.cells cs 51 (0, 0)) (row_mk (heap_alloc_new _) (by simp) (by simp) (by simp))
        refine ⟨_, _, _, he, ?_, i.drawn _, x.trans (Ext.drawn _ _ _ _ _)⟩
        refine VRel.drawn _ _ _ ?_
        have := VRel.ref (μ := μ.lay H.length w.heap.size) (S := S) (w := w.alloc (.cells cs 51 (0, 0))) H.length 3 0 0 G w.heap.size 0 cs 51 (0, 0) (Mu.lay_self _ _ _) (heap_alloc_new _) (Nat.zero_le _) (by omega)
        simpa using this
      · cases h
  · cases h
end Go.AM

/-
  DERIVED: THE SHELF's CONTRACTS AT THIS DUMP, IN PLAIN WORDS (tools/lay-plain.mjs out of 'YthhgiappgpeloaaDoorSrcItoa.lean', which tools/lay-shelf.mjs wrote): THE SAME DECLARATIONS UNDER THE SAME NAMES: 'import', 'namespace', 'open', 'def', 'theorem' AND NOTHING ELSE: no command of the shelf's: FOR A HAND-IN. Each laying: the table of numbers ('.._ren') and one theorem, a field a fact of the dump's own or the kernel's comparison; each contract: ONE APPLICATION.
-/
namespace Go.Proofs
open Go.Shelf
def Tryd.lays171_ren : Go.Shelf.Ren := ⟨fun | 171 => 49 | 243 => 60 | 246 => 68 | 283 => 78 | 284 => 79 | 285 => 80 | 286 => 81 | 129 => 87 | 317 => 86 | 318 => 88 | 319 => 89 | 320 => 90 | 337 => 94 | 338 => 77 | n => n, fun | 3 => 3 | 9 => 9 | 2 => 2 | 4 => 4 | 171 => 122 | 0 => 0 | 53 => 104 | 37 => 66 | 5 => 5 | 173 => 124 | 212 => 133 | 51 => 134 | 20 => 20 | 213 => 135 | 46 => 131 | 232 => 147 | 233 => 130 | n => n, fun | 17 => 2 | 18 => 5 | 19 => 1 | n => n⟩
theorem Tryd.lays171 : Go.Proofs.LaysM.n171 Tryd.prog Tryd.lays171_ren := {
  mixed := by kernel_rfl
  f129 := Tryd.func87.trans (congrArg some (by kernel_rfl))
  f171 := Tryd.func49.trans (congrArg some (by kernel_rfl))
  f243 := Tryd.func60.trans (congrArg some (by kernel_rfl))
  f246 := Tryd.func68.trans (congrArg some (by kernel_rfl))
  f283 := Tryd.func78.trans (congrArg some (by kernel_rfl))
  f284 := Tryd.func79.trans (congrArg some (by kernel_rfl))
  f285 := Tryd.func80.trans (congrArg some (by kernel_rfl))
  f286 := Tryd.func81.trans (congrArg some (by kernel_rfl))
  f317 := Tryd.func86.trans (congrArg some (by kernel_rfl))
  f318 := Tryd.func88.trans (congrArg some (by kernel_rfl))
  f319 := Tryd.func89.trans (congrArg some (by kernel_rfl))
  f320 := Tryd.func90.trans (congrArg some (by kernel_rfl))
  f337 := Tryd.func94.trans (congrArg some (by kernel_rfl))
  f338 := Tryd.func77.trans (congrArg some (by kernel_rfl))
  t0 := Tryd.underlying0
  a0 := Tryd.isAgg0
  z0 := Tryd.sizeOf0
  v0 := Tryd.zeroValue0
  t2 := Tryd.underlying2
  a2 := Tryd.isAgg2
  z2 := Tryd.sizeOf2
  v2 := Tryd.zeroValue2
  t3 := Tryd.underlying3
  a3 := Tryd.isAgg3
  z3 := Tryd.sizeOf3
  v3 := Tryd.zeroValue3
  t4 := Tryd.underlying4
  a4 := Tryd.isAgg4
  z4 := Tryd.sizeOf4
  v4 := Tryd.zeroValue4
  t5 := Tryd.underlying5
  a5 := Tryd.isAgg5
  z5 := Tryd.sizeOf5
  v5 := Tryd.zeroValue5
  t9 := Tryd.underlying9
  a9 := Tryd.isAgg9
  z9 := Tryd.sizeOf9
  v9 := Tryd.zeroValue9
  t20 := Tryd.underlying20
  a20 := Tryd.isAgg20
  z20 := Tryd.sizeOf20
  v20 := Tryd.zeroValue20
  t37 := Tryd.underlying66
  a37 := Tryd.isAgg66
  z37 := Tryd.sizeOf66
  v37 := Tryd.zeroValue66
  t46 := Tryd.underlying131
  a46 := Tryd.isAgg131
  z46 := Tryd.sizeOf131
  v46 := Tryd.zeroValue131
  t51 := Tryd.underlying134
  a51 := Tryd.isAgg134
  z51 := Tryd.sizeOf134
  v51 := Tryd.zeroValue134
  t53 := Tryd.underlying104
  a53 := Tryd.isAgg104
  z53 := Tryd.sizeOf104
  v53 := Tryd.zeroValue104
  t171 := Tryd.underlying122
  a171 := Tryd.isAgg122
  z171 := Tryd.sizeOf122
  v171 := Tryd.zeroValue122
  t173 := Tryd.underlying124
  a173 := Tryd.isAgg124
  z173 := Tryd.sizeOf124
  v173 := Tryd.zeroValue124
  t212 := Tryd.underlying133
  a212 := Tryd.isAgg133
  z212 := Tryd.sizeOf133
  v212 := Tryd.zeroValue133
  t213 := Tryd.underlying135
  a213 := Tryd.isAgg135
  z213 := Tryd.sizeOf135
  t232 := Tryd.underlying147
  a232 := Tryd.isAgg147
  z232 := Tryd.sizeOf147
  v232 := Tryd.zeroValue147
  t233 := Tryd.underlying130
  a233 := Tryd.isAgg130
  z233 := Tryd.sizeOf130
  v233 := Tryd.zeroValue130
  g17 := by kernel_rfl
  g18 := by kernel_rfl
  g19 := by kernel_rfl
  i0 := by kernel_rfl
  i2 := by kernel_rfl
  i3 := by kernel_rfl
  i4 := by kernel_rfl
  i5 := by kernel_rfl
  i9 := by kernel_rfl
  i20 := by kernel_rfl
  i37 := by kernel_rfl
  i46 := by kernel_rfl
  i51 := by kernel_rfl
  i53 := by kernel_rfl
  i171 := by kernel_rfl
  i173 := by kernel_rfl
  i212 := by kernel_rfl
  i232 := by kernel_rfl
  i233 := by kernel_rfl
  m17 := by kernel_rfl
  m18 := by kernel_rfl
  m19 := by kernel_rfl }
end Go.Proofs

/- strconv.Itoa, as the kit's library tells it. -/
set_option linter.unusedVariables false
set_option linter.unusedSimpArgs false
namespace Go.AM
open Go.Proofs Go.Sort
def gItoa : List V → Heap → Option (V × Heap)
  | [.int .i64 n], H => if -9223372036854775808 ≤ n ∧ n ≤ 9223372036854775807 then some (.str (Lib.itoa n), H) else none
  | _, _ => none
theorem glob10 : Tryd.prog.globalNamed "internal/strconv.uint64pow10" = some 2 := by kernel_rfl
theorem laid10 : laidCells 2 = some (Lib.pow10Tab.map fun z => V.int .u64 z) := by rfl
theorem itoa_ok : ∀ args H v H', gItoa args H = some (v, H') → H.length ≤ H'.length ∧ ∀ (μ : Mu) (S : Nat → Prop) (w : World) (cargs : Array Value), Inv μ S H w → VRels μ S w args cargs.toList →
    Calls Tryd.prog 49 cargs w fun e w' => ∃ cv μ' S', e = .returned cv ∧ VRel μ' S' w' v cv ∧ Inv μ' S' H' w' ∧ Ext μ S H w μ' S' H' w' := by
  intro args H v H' h
  unfold gItoa at h
  split at h
  · rename_i n
    split at h
    · rename_i hn
      injection h with h; injection h with e1 e2; subst e1; subst e2
      refine ⟨Nat.le_refl _, fun μ S w cargs I ha => ?_⟩
      obtain rfl : cargs = #[.int .i64 n] := by
        obtain ⟨l⟩ := cargs
        cases ha with
        | cons h1 h2 => cases h2; cases h1; rfl
      refine Calls.mono (Any.strconv_Itoa Tryd.lays171 n hn.1 hn.2 w (tab_of I.laid glob10 laid10)) ?_
      rintro e w' ⟨rfl, k, os, rfl⟩
      obtain ⟨i, x⟩ := inv_more (I.drawn (w.drawn + k)) os
      exact ⟨_, _, _, rfl, VRel.mkStr _, i, (Ext.drawn _ _ _ _ (w.drawn + k)).trans x⟩
    · cases h
  · cases h
end Go.AM

/-
  DERIVED: THE SHELF's CONTRACTS AT THIS DUMP, IN PLAIN WORDS (tools/lay-plain.mjs out of 'YthhgiappgpeloaaDoorSrcJoin.lean', which tools/lay-shelf.mjs wrote): THE SAME DECLARATIONS UNDER THE SAME NAMES: 'import', 'namespace', 'open', 'def', 'theorem' AND NOTHING ELSE: no command of the shelf's: FOR A HAND-IN. Each laying: the table of numbers ('.._ren') and one theorem, a field a fact of the dump's own or the kernel's comparison; each contract: ONE APPLICATION.
-/
namespace Go.Proofs
open Go.Shelf
def Tryd.lays156_ren : Go.Shelf.Ren := ⟨fun | 156 => 33 | 165 => 48 | 166 => 40 | 169 => 31 | 240 => 54 | 241 => 59 | 276 => 64 | 277 => 67 | n => n, fun | 31 => 35 | 9 => 9 | 3 => 3 | 4 => 4 | 0 => 0 | 20 => 20 | 72 => 68 | 76 => 86 | 70 => 65 | 37 => 66 | 75 => 84 | 127 => 95 | 164 => 108 | 5 => 5 | 80 => 74 | n => n, fun | n => n⟩
theorem Tryd.lays156 : Go.Proofs.Lays.n156 Tryd.prog Tryd.lays156_ren := {
  mixed := by kernel_rfl
  f156 := Tryd.func33.trans (congrArg some (by kernel_rfl))
  f165 := Tryd.func48.trans (congrArg some (by kernel_rfl))
  f166 := Tryd.func40.trans (congrArg some (by kernel_rfl))
  f169 := Tryd.func31.trans (congrArg some (by kernel_rfl))
  f240 := Tryd.func54.trans (congrArg some (by kernel_rfl))
  f241 := Tryd.func59.trans (congrArg some (by kernel_rfl))
  f276 := Tryd.func64.trans (congrArg some (by kernel_rfl))
  f277 := Tryd.func67.trans (congrArg some (by kernel_rfl))
  t0 := Tryd.underlying0
  a0 := Tryd.isAgg0
  z0 := Tryd.sizeOf0
  v0 := Tryd.zeroValue0
  t3 := Tryd.underlying3
  a3 := Tryd.isAgg3
  z3 := Tryd.sizeOf3
  v3 := Tryd.zeroValue3
  t4 := Tryd.underlying4
  a4 := Tryd.isAgg4
  z4 := Tryd.sizeOf4
  v4 := Tryd.zeroValue4
  t9 := Tryd.underlying9
  a9 := Tryd.isAgg9
  z9 := Tryd.sizeOf9
  v9 := Tryd.zeroValue9
  t20 := Tryd.underlying20
  a20 := Tryd.isAgg20
  z20 := Tryd.sizeOf20
  v20 := Tryd.zeroValue20
  t31 := Tryd.underlying35
  a31 := Tryd.isAgg35
  z31 := Tryd.sizeOf35
  v31 := Tryd.zeroValue35
  t37 := Tryd.underlying66
  a37 := Tryd.isAgg66
  z37 := Tryd.sizeOf66
  v37 := Tryd.zeroValue66
  t70 := Tryd.underlying65
  a70 := Tryd.isAgg65
  z70 := Tryd.sizeOf65
  v70 := Tryd.zeroValue65
  t72 := Tryd.underlying68
  a72 := Tryd.isAgg68
  z72 := Tryd.sizeOf68
  v72 := Tryd.zeroValue68
  t75 := Tryd.underlying84
  a75 := Tryd.isAgg84
  z75 := Tryd.sizeOf84
  v75 := Tryd.zeroValue84
  t76 := Tryd.underlying86
  a76 := Tryd.isAgg86
  z76 := Tryd.sizeOf86
  v76 := Tryd.zeroValue86
  t127 := Tryd.underlying95
  a127 := Tryd.isAgg95
  z127 := Tryd.sizeOf95
  v127 := Tryd.zeroValue95
  t164 := Tryd.underlying108
  a164 := Tryd.isAgg108
  z164 := Tryd.sizeOf108
  v164 := Tryd.zeroValue108 }
end Go.Proofs

/- strings.Join, as the kit's library tells it. -/
set_option linter.unusedVariables false
set_option linter.unusedSimpArgs false
namespace Go.AM
open Go.Proofs Go.RowKit
theorem extraJ : Builder.Extra Tryd.prog Tryd.lays156_ren where
  sizeBuilder := by kernel_rfl
  liesBuilder := by kernel_rfl
  t5 := Tryd.underlying5
  a5 := Tryd.isAgg5
  z5 := Tryd.sizeOf5
  v5 := Tryd.zeroValue5
  infoByte := by kernel_rfl
  cellsByte := by kernel_rfl
  sizeByte := by kernel_rfl
  neB5 := by decide
def strV : V → Option (List UInt8)
  | .str s => some s
  | _ => none
def gJ0 : List V → Option V
  | [.lst xs, .str sep] => (xs.mapM strV).bind fun l => if l.length ≤ 1099511627776 ∧ (Lib.join l sep).length ≤ 1099511627776 then some (.str (Lib.join l sep)) else none
  | _ => none
def gJoin : List V → Heap → Option (V × Heap) := gPr gJ0
theorem strV_eq {v : V} {s : List UInt8} (h : strV v = some s) : v = .str s := by
  unfold strV at h
  split at h
  · injection h with h; rw [h]
  · cases h
theorem strVs_eq : ∀ {xs : List V} {l : List (List UInt8)}, xs.mapM strV = some l → xs = l.map V.str
  | [], l, h => by simp at h; subst h; rfl
  | v :: r, l, h => by
    simp only [List.mapM_cons, Option.pure_def, Option.bind_eq_bind, Option.bind_eq_some_iff] at h
    obtain ⟨c, h1, l', h2, h3⟩ := h
    injection h3 with h3
    subst h3
    rw [List.map_cons, ← strVs_eq h2, strV_eq h1]
theorem str_inv {μ : Mu} {S : Nat → Prop} {w : World} {s : List UInt8} {x : Value} (h : VRel μ S w (.str s) x) : ∃ b : ByteArray, b.data.toList = s ∧ x = .string b := by
  generalize hs : V.str s = v at h
  cases h with
  | str b => injection hs with hs; exact ⟨b, hs.symm, rfl⟩
  | _ => cases hs
theorem flat_str (l : List (List UInt8)) : (l.map V.str).flatMap V.cells = l.map V.str := by
  induction l with
  | nil => rfl
  | cons a r ih => rw [List.map_cons, List.flatMap_cons, ih]; rfl
theorem join_ok : ∀ args H v H', gJoin args H = some (v, H') → H.length ≤ H'.length ∧ ∀ (μ : Mu) (S : Nat → Prop) (w : World) (cargs : Array Value), Inv μ S H w → VRels μ S w args cargs.toList →
    Calls Tryd.prog 33 cargs w fun e w' => ∃ cv μ' S', e = .returned cv ∧ VRel μ' S' w' v cv ∧ Inv μ' S' H' w' ∧ Ext μ S H w μ' S' H' w' := by
  refine gPr_ok ?_ ?_
  · intro ds v h
    unfold gJ0 at h
    split at h
    · simp only [Option.bind_eq_some_iff] at h
      obtain ⟨l, -, h⟩ := h
      split at h
      · injection h with h; subst h; rfl
      · cases h
    · cases h
  · intro ds v h S2 w cargs hdom ha
    unfold gJ0 at h
    split at h
    · rename_i xs sep
      simp only [Option.bind_eq_some_iff] at h
      obtain ⟨l, hl, h⟩ := h
      have hxs := strVs_eq hl
      subst hxs
      split at h
      · rename_i hc
        injection h with h
        subst h
        obtain ⟨cl⟩ := cargs
        cases ha with
        | cons h1 ha => cases ha with
          | cons h2 ha => cases ha with
            | nil =>
              obtain ⟨sb, hsb, rfl⟩ := str_inv h2
              generalize hv : V.lst (l.map V.str) = lv at h1
              cases h1 with
              | lst0 a n =>
                injection hv with hv
                have hl0 : l = [] := by simpa using hv
                subst hl0
                refine (Any.strings_Join_none Tryd.lays156 extraJ a n sb w).mono ?_
                rintro e w' ⟨rfl, rfl⟩
                exact ⟨_, rfl, .str ⟨#[]⟩, Below.refl _ _⟩
              | lst xs s b o cap c e fz f k1 k2 k3 k4 k5 k6 =>
                injection hv with hv
                subst hv
                have hcell : ∀ (j : Nat) x, (l.map fun s => (⟨s.toArray⟩ : ByteArray))[j]? = some x → w.cell? ⟨b, o + j, none⟩ = some (.string x) := by
                  intro j x hj
                  rw [List.getElem?_map, Option.map_eq_some_iff] at hj
                  obtain ⟨s', hs', rfl⟩ := hj
                  have e1 : ((l.map V.str).flatMap V.cells)[j]? = some (.str s') := by rw [flat_str, List.getElem?_map, hs']; rfl
                  obtain ⟨-, e2⟩ := k5 j _ e1
                  obtain ⟨b', hb', e3⟩ := str_inv (k6 j _ e1)
                  have e4 : b' = ⟨s'.toArray⟩ := by rw [← hb']
                  have e5 : w.cell? ⟨b, o + j, none⟩ = c[o + j]? := by simp [World.cell?, k2]
                  rw [e5, e2, e3, e4]
                have hm : (l.map fun s => (⟨s.toArray⟩ : ByteArray)).map (·.data.toList) = l := by
                  rw [List.map_map]
                  exact List.map_id l
                have hj := Any.strings_Join Tryd.lays156 extraJ b o cap (l.map fun s => (⟨s.toArray⟩ : ByteArray)) sb w hcell (hdom b k1) (by rw [List.length_map]; omega) (by simpa using k3) (by rw [hm, hsb]; omega)
                rw [hm, hsb, List.length_map] at hj
                rw [List.length_map]
                refine hj.mono ?_
                rintro e w' ⟨rfl, hb⟩
                exact ⟨_, rfl, .str ⟨_⟩, hb⟩
              | _ => cases hv
      · cases h
    · cases h
end Go.AM

/-
  DERIVED: THE SHELF's CONTRACTS AT THIS DUMP, IN PLAIN WORDS (tools/lay-plain.mjs out of 'YthhgiappgpeloaaDoorSrcTz.lean', which tools/lay-shelf.mjs wrote): THE SAME DECLARATIONS UNDER THE SAME NAMES: 'import', 'namespace', 'open', 'def', 'theorem' AND NOTHING ELSE: no command of the shelf's: FOR A HAND-IN. Each laying: the table of numbers ('.._ren') and one theorem, a field a fact of the dump's own or the kernel's comparison; each contract: ONE APPLICATION.
-/
namespace Go.Proofs
open Go.Shelf
def Tryd.lays29_ren : Go.Shelf.Ren := ⟨fun | 29 => 77 | n => n, fun | 22 => 104 | 3 => 3 | 4 => 4 | 25 => 131 | 54 => 130 | 0 => 0 | 5 => 5 | n => n, fun | 1 => 1 | n => n⟩
theorem Tryd.lays29 : Go.Proofs.Lays7.n29 Tryd.prog Tryd.lays29_ren := {
  mixed := by kernel_rfl
  f29 := Tryd.func77.trans (congrArg some (by kernel_rfl))
  t0 := Tryd.underlying0
  a0 := Tryd.isAgg0
  z0 := Tryd.sizeOf0
  v0 := Tryd.zeroValue0
  i0 := by kernel_rfl
  t3 := Tryd.underlying3
  a3 := Tryd.isAgg3
  z3 := Tryd.sizeOf3
  v3 := Tryd.zeroValue3
  i3 := by kernel_rfl
  t4 := Tryd.underlying4
  a4 := Tryd.isAgg4
  z4 := Tryd.sizeOf4
  v4 := Tryd.zeroValue4
  i4 := by kernel_rfl
  t5 := Tryd.underlying5
  a5 := Tryd.isAgg5
  z5 := Tryd.sizeOf5
  v5 := Tryd.zeroValue5
  i5 := by kernel_rfl
  t22 := Tryd.underlying104
  a22 := Tryd.isAgg104
  z22 := Tryd.sizeOf104
  v22 := Tryd.zeroValue104
  i22 := by kernel_rfl
  t25 := Tryd.underlying131
  a25 := Tryd.isAgg131
  z25 := Tryd.sizeOf131
  v25 := Tryd.zeroValue131
  i25 := by kernel_rfl
  t54 := Tryd.underlying130
  a54 := Tryd.isAgg130
  z54 := Tryd.sizeOf130
  g1 := by kernel_rfl }
end Go.Proofs

/- math/bits.TrailingZeros64, as the kit's library tells it. -/
set_option linter.unusedVariables false
set_option linter.unusedSimpArgs false
namespace Go.AM
open Go.Proofs Go.RowKit
def gTz : List V → Heap → Option (V × Heap)
  | [.int .u64 x], H => if 0 ≤ x ∧ x < 18446744073709551616 then some (.int .i64 (Lib.ctz 64 x.toNat : Nat), H) else none
  | _, _ => none
theorem laidB : laidCells 1 = some (Lib.deBruijn64tab.map fun i => .int .u8 ((i : Nat) : Int)) := by rfl
theorem tz_tab {S : Nat → Prop} {w : World} (L : LaidOK S w) : TabAt 1 Lib.deBruijn64tab w := by
  obtain ⟨h1, c, e, fz, h2, h3, h4⟩ := L 1 _ laidB
  intro j hj
  obtain ⟨x, k1, k2⟩ := h4 j (.int .u8 ((Lib.deBruijn64tab.getD j 0 : Nat) : Int)) (by
    rw [List.getElem?_map, List.getElem?_eq_getElem hj]
    simp [List.getD, hj])
  injection k1 with k1
  subst k1
  simp [World.cell?, h2, k2]
theorem tz_ok : ∀ args H v H', gTz args H = some (v, H') → H.length ≤ H'.length ∧ ∀ (μ : Mu) (S : Nat → Prop) (w : World) (cargs : Array Value), Inv μ S H w → VRels μ S w args cargs.toList →
    Calls Tryd.prog 77 cargs w fun e w' => ∃ cv μ' S', e = .returned cv ∧ VRel μ' S' w' v cv ∧ Inv μ' S' H' w' ∧ Ext μ S H w μ' S' H' w' := by
  intro args H v H' h
  unfold gTz at h
  split at h
  · rename_i x
    split at h
    · rename_i hn
      injection h with h; injection h with e1 e2; subst e1; subst e2
      refine ⟨Nat.le_refl _, fun μ S w cargs I ha => ?_⟩
      obtain rfl : cargs = #[.int .u64 x] := by
        obtain ⟨l⟩ := cargs
        cases ha with
        | cons h1 h2 => cases h2; cases h1; rfl
      have hx : ((x.toNat : Nat) : Int) = x := by omega
      have := Any7.bits_TrailingZeros64 Tryd.lays29 x.toNat (by omega) w (fun _ => tz_tab I.laid)
      rw [hx] at this
      refine this.mono ?_
      rintro e w' ⟨rfl, rfl⟩
      exact ⟨_, μ, S, rfl, .int _ _, I, Ext.refl _ _ _ _⟩
    · cases h
  · cases h
end Go.AM

/- The builder's methods, walked: copyCheck. -/
set_option linter.unusedVariables false
set_option linter.unusedSimpArgs false
namespace Go.AM
open Go.RowKit Go.Shelf Go.Proofs
def bT (t : Nat) : Prop := t = 68 ∨ t = 70
theorem infoB : (Tryd.prog.info? 68).map (fun i => i.size) = some 2 := by kernel_rfl
theorem liesB {t : Nat} (ht : bT t) : liesAt Tryd.prog Tryd.prog.depth t (2 / Tryd.prog.cellsOf t) 0 68 1 = true := by
  rcases ht with rfl | rfl <;> kernel_rfl
set_option maxHeartbeats 1000000 in
set_option maxRecDepth 100000 in
theorem copyCheck_used (b : Nat) (w : World) (h0 : w.cell? ⟨b, 0, none⟩ = some (.pointer (some ⟨b, 0, none⟩))) :
    Calls Tryd.prog 54 #[.pointer (some ⟨b, 0, none⟩)] w fun e w' => e = .returned (.tuple #[]) ∧ w' = w := by
  obtain ⟨j, hj, _⟩ := Option.map_eq_some_iff.1 infoB
  go_enter Tryd.func54, Tryd.ntmps54
  go_wp2
  rw [Lib.run_neq_ptr_same w _ Tryd.underlying65 hj]
  go_wp2
  go_end0
  exact ⟨rfl, rfl⟩
set_option maxHeartbeats 1000000 in
set_option maxRecDepth 100000 in
theorem copyCheck_fresh {t : Nat} (ht : bT t) (b : Nat) (w : World) (h0 : w.cell? ⟨b, 0, none⟩ = some (.pointer none)) (hsh : w.shape? b = some (t, 2)) (hfz : w.frozen? ⟨b, 0, none⟩ = false) :
    Calls Tryd.prog 54 #[.pointer (some ⟨b, 0, none⟩)] w fun e w' => e = .returned (.tuple #[]) ∧ w' = w.setCell ⟨b, 0, none⟩ (.pointer (some ⟨b, 0, none⟩)) := by
  obtain ⟨j, hj, hjs⟩ := Option.map_eq_some_iff.1 infoB
  have u65 := run_underlying Tryd.underlying65
  go_enter Tryd.func54, Tryd.ntmps54
  go_wp2
  rw [Lib.run_to_unsafe w ⟨b, 0, none⟩ Tryd.underlying65 Tryd.underlying108 hj (by rw [hjs]; decide) hsh (Nat.zero_lt_succ 1)]
  simp only [Result.andThen]
  rw [Oper.upon_value]
  go_wp2
  rw [run_callFunc_extern Tryd.func64 (by kernel_rfl) (by kernel_rfl) (by kernel_rfl) (e := Extern.AbiNoEscape.same) (by kernel_rfl)]
  rw [Lib.run_noEscape]
  simp only [Result.andThen]
  rw [Oper.upon_value]
  go_wp2
  rw [Lib.run_from_unsafe w ⟨b, 0, none⟩ Tryd.underlying108 Tryd.underlying65 hj hsh (liesB ht)]
  simp only [Result.andThen]
  rw [Oper.upon_value]
  go_wp2
  go_end0
  exact ⟨rfl, rfl⟩
end Go.AM

/- The builder's methods, walked: what is appended to its buffer. -/
set_option linter.unusedVariables false
set_option linter.unusedSimpArgs false
namespace Go.AM
open Go.RowKit Go.Shelf Go.Proofs
theorem infoU8 : (Tryd.prog.info? 5).map (fun i => (i.zero, i.size, i.bytes)) = some (some (.int .u8 0), 1, 1) := by kernel_rfl
def Buf (w : World) (v : Value) (xs : List Value) : Prop :=
  (v = .slice none 0 0 ∧ xs = []) ∨ ∃ g cap cur, v = .slice (some ⟨g, 0, none⟩) xs.length cap ∧ 0 < xs.length ∧ w.heap[g]? = some (.cells cur 5 (0, 0)) ∧ xs.length ≤ cap ∧ cap ≤ cur.size ∧ cur.toList.take xs.length = xs
inductive App (w : World) (v : Value) (xs new : List Value) : Value → World → Prop where
  | none : new = [] → v = .slice none 0 0 → App w v xs new v w
  | grow (c : Array Value) (G : Nat) (w0 : World) : w0 = w.drew → 0 < (xs ++ new).length → (xs ++ new).length ≤ G → G ≤ c.size → c.toList.take (xs ++ new).length = xs ++ new → App w v xs new (.slice (some ⟨w.heap.size, 0, .none⟩) (xs ++ new).length G) (w0.alloc (.cells c 5))
  | room (g cap : Nat) (cur c : Array Value) : v = .slice (some ⟨g, 0, .none⟩) xs.length cap → w.heap[g]? = some (.cells cur 5 (0, 0)) → (xs ++ new).length ≤ cap → cap ≤ cur.size → c.size = cur.size → c.toList.take (xs ++ new).length = xs ++ new →
      App w v xs new (.slice (some ⟨g, 0, .none⟩) (xs ++ new).length cap) (w.setRow g c)
theorem take_room {xs new : List Value} {cur : Array Value} (h1 : cur.toList.take xs.length = xs) (h2 : (xs ++ new).length ≤ cur.size) :
    (cur.toList.take xs.length ++ new ++ cur.toList.drop (xs.length + new.length)).toArray.size = cur.size ∧ (cur.toList.take xs.length ++ new ++ cur.toList.drop (xs.length + new.length)).toArray.toList.take (xs ++ new).length = xs ++ new := by
  rw [List.length_append] at h2
  constructor
  · simp only [List.size_toArray, List.length_append, List.length_take, List.length_drop, Array.length_toList]; omega
  · rw [h1]
    exact List.take_left
theorem take_grow {xs new : List Value} {z : Array Value} : (xs.toArray ++ new.toArray ++ z).toList.take (xs ++ new).length = xs ++ new := by
  simp only [Array.toList_append]
  exact List.take_left
theorem app_string (w : World) (v : Value) (xs : List Value) (s : ByteArray) (hv : Buf w v xs) (hb : xs.length + s.size ≤ 1099511627776) :
    ∃ v' w', (Builtin.append_ #[66, 9] 66 #[v, .string s]).run Tryd.prog w = .ok v' w' ∧ App w v xs (Lib.strCells s) v' w' := by
  obtain ⟨i, hi, hzz⟩ := Option.map_eq_some_iff.1 infoU8
  simp only [Prod.mk.injEq] at hzz
  obtain ⟨hz, hs, hy⟩ := hzz
  have hl := Lib.strCells_length s
  have hz1 : (Value.int IntKind.u8 0).cells.size = 1 := rfl
  rcases hv with ⟨rfl, rfl⟩ | ⟨g, cap, cur, rfl, h0, hg, hc1, hc2, ht⟩
  · by_cases h0 : s.size = 0
    · have hnil : Lib.strCells s = [] := List.eq_nil_of_length_eq_zero (hl.trans h0)
      obtain ⟨v', w', h1, h2, h3, h4⟩ := Lib.run_append_own_string (P := Tryd.prog) w 0 66 9 66 5 i Tryd.underlying66 Tryd.underlying9 hi hz hs hy (.slice none 0 0) 0 [] ⟨rfl, .inl ⟨rfl, rfl⟩⟩ s (by unfold maxLen; omega) (by omega) (Nat.zero_le _)
      have hv' := h4.2 ⟨rfl, h0⟩
      subst hv'
      have hw : (Builtin.append_ #[66, 9] 66 #[.slice none 0 0, .string s]).run Tryd.prog w = .ok (.slice none 0 0) w := by
        simp [Builtin.append_, run_underlying Tryd.underlying66, run_underlying Tryd.underlying9, sizeOf, typeInfo, hi, hs, Builtin.lenOf, h0, Builtin.firstCells]
      exact ⟨_, _, hw, .none hnil rfl⟩
    · have hr := run_append_nil_string (P := Tryd.prog) w 66 9 66 5 i (.int .u8 0) Tryd.underlying66 Tryd.underlying9 hi hz s (by omega) (by omega) (by rw [hy]; omega)
      have hge := grownCap_ge w s.size 0 5
      have e1 : s.size = ([] ++ Lib.strCells s).length := by simp [hl]
      have := App.grow (w := w) (v := .slice none 0 0) (xs := []) (new := Lib.strCells s) (s.data.map (fun b => Value.int .u8 b.toNat) ++ Builtin.zeroCells (Value.int .u8 0).cells (grownCap w s.size 0 5 - s.size)) (grownCap w s.size 0 5) w.drew rfl (by rw [← e1]; omega) (by rw [← e1]; exact hge)
        (by
          have : s.data.size = s.size := rfl
          simp only [Array.size_append, Array.size_map, size_zeroCells, hz1]; omega)
        (by
          have e2 : (s.data.map (fun b => Value.int .u8 b.toNat)).toList = Lib.strCells s := by simp [Lib.strCells]
          rw [Array.toList_append, e2]
          exact List.take_left)
      rw [← e1] at this
      exact ⟨_, _, hr, this⟩
  · by_cases hroom : xs.length + s.size ≤ cap
    · have hr := Lib.run_append_room_string (P := Tryd.prog) w 66 9 66 5 i Tryd.underlying66 Tryd.underlying9 hi hs g xs.length cap cur hg s hroom (by omega)
      have e1 : xs.length + s.size = (xs ++ Lib.strCells s).length := by rw [List.length_append, hl]
      have hd : xs.length + s.size = xs.length + (Lib.strCells s).length := by rw [hl]
      obtain ⟨t1, t2⟩ := take_room (new := Lib.strCells s) ht (by rw [← e1]; omega)
      have := App.room (w := w) (xs := xs) (new := Lib.strCells s) g cap cur _ rfl hg (by omega) hc2 t1 t2
      rw [← e1, ← hd] at this
      exact ⟨_, _, hr, this⟩
    · have holds : ∀ j u, xs[j]? = some u → w.cell? ((⟨g, 0, none⟩ : Addr).add j) = some u := by
        intro j u hj
        have hjl : j < xs.length := (List.getElem?_eq_some_iff.1 hj).1
        rw [← ht, List.getElem?_take_of_lt hjl, Array.getElem?_toList] at hj
        have : (⟨g, 0, none⟩ : Addr).add j = ⟨g, j, none⟩ := by unfold Addr.add; split <;> simp_all
        rw [this]
        simp [World.cell?, hg, hj]
      have hr := Lib.run_append_grow_string (P := Tryd.prog) w 66 9 66 5 i (.int .u8 0) Tryd.underlying66 Tryd.underlying9 hi hz ⟨g, 0, none⟩ xs.length cap xs (by rw [hs]; omega) holds s (by omega) (by omega) (by rw [hy]; exact growslice_fits (by omega) (by omega))
      have hge := grownCap_ge w (xs.length + s.size) cap 5
      have e1 : xs.length + s.size = (xs ++ Lib.strCells s).length := by rw [List.length_append, hl]
      have := App.grow (w := w) (v := .slice (some ⟨g, 0, none⟩) xs.length cap) (xs := xs) (new := Lib.strCells s) (xs.toArray ++ (Lib.strCells s).toArray ++ Builtin.zeroCells (Value.int .u8 0).cells (grownCap w (xs.length + s.size) cap 5 - (xs.length + s.size))) (grownCap w (xs.length + s.size) cap 5) w.drew rfl (by rw [← e1]; omega) (by rw [← e1]; exact hge)
        (by simp only [Array.size_append, List.size_toArray, size_zeroCells, hz1, hl]; omega) take_grow
      rw [← e1] at this
      exact ⟨_, _, hr, this⟩
end Go.AM

/- The builder's methods, walked: WriteString, WriteByte, String. -/
set_option linter.unusedVariables false
set_option linter.unusedSimpArgs false
namespace Go.AM
open Go.RowKit Go.Shelf Go.Proofs
theorem app_byte (w : World) (v : Value) (xs : List Value) (u : Value) (a : Addr) (ha : w.cell? a = some u) (hu : u.oneCell' = true) (hv : Buf w v xs) (hb : xs.length + 1 ≤ 1099511627776) :
    ∃ v' w', (Builtin.append_ #[66, 66] 66 #[v, .slice (some a) 1 1]).run Tryd.prog w = .ok v' w' ∧ App w v xs [u] v' w' := by
  obtain ⟨i, hi, hzz⟩ := Option.map_eq_some_iff.1 infoU8
  simp only [Prod.mk.injEq] at hzz
  obtain ⟨hz, hs, hy⟩ := hzz
  have hz1 : (Value.int IntKind.u8 0).cells.size = 1 := rfl
  have hnews : ∀ j x, [u][j]? = some x → w.cell? (a.add j) = some x := by
    intro j x hj
    match j, hj with
    | 0, hj =>
      simp at hj
      subst hj
      have : a.add 0 = a := by unfold Addr.add; split <;> simp_all
      rw [this]; exact ha
  have h1 : ∀ x ∈ [u], x.oneCell' = true := by intro x hx; simp at hx; subst hx; exact hu
  have hl : (xs ++ [u]).length = xs.length + 1 := by simp
  rcases hv with ⟨rfl, rfl⟩ | ⟨g, cap, cur, rfl, h0, hg, hc1, hc2, ht⟩
  · have hr := run_append_nil (P := Tryd.prog) w 66 66 5 i (.int .u8 0) Tryd.underlying66 hi hz a 1 1 [u] (by rw [hs]; rfl) hnews (by omega) (by omega) (by rw [hy]; omega)
    have hge := grownCap_ge w 1 0 5
    have := App.grow (w := w) (v := .slice none 0 0) (xs := []) (new := [u]) ([u].toArray ++ Builtin.zeroCells (Value.int .u8 0).cells (grownCap w 1 0 5 - 1)) (grownCap w 1 0 5) w.drew rfl (by simp) (by simpa using hge)
      (by simp only [Array.size_append, List.size_toArray, size_zeroCells, hz1, List.length_cons, List.length_nil]; omega) (by rw [Array.toList_append]; exact List.take_left)
    exact ⟨_, _, hr, this⟩
  · by_cases hroom : xs.length + 1 ≤ cap
    · have hr := run_append_room (P := Tryd.prog) w 66 66 5 i Tryd.underlying66 hi g xs.length cap cur hg a 1 1 [u] (by rw [hs]; rfl) hnews h1 hroom (by rw [hs]; simp; omega)
      simp only [hs, Nat.mul_one] at hr
      obtain ⟨t1, t2⟩ := take_room (new := [u]) ht (by rw [hl]; omega)
      have := App.room (w := w) (xs := xs) (new := [u]) g cap cur _ rfl hg (by rw [hl]; omega) hc2 t1 t2
      rw [hl] at this
      exact ⟨_, _, hr, this⟩
    · have holds : ∀ j u, xs[j]? = some u → w.cell? ((⟨g, 0, none⟩ : Addr).add j) = some u := by
        intro j u hj
        have hjl : j < xs.length := (List.getElem?_eq_some_iff.1 hj).1
        rw [← ht, List.getElem?_take_of_lt hjl, Array.getElem?_toList] at hj
        have : (⟨g, 0, none⟩ : Addr).add j = ⟨g, j, none⟩ := by unfold Addr.add; split <;> simp_all
        rw [this]
        simp [World.cell?, hg, hj]
      have hr := run_append_grow (P := Tryd.prog) w 66 66 5 i (.int .u8 0) Tryd.underlying66 hi hz ⟨g, 0, none⟩ xs.length cap xs (by rw [hs]; omega) holds a 1 1 [u] (by rw [hs]; rfl) hnews (by omega) (by omega) (by rw [hy]; exact growslice_fits (by omega) (by omega))
      have hge := grownCap_ge w (xs.length + 1) cap 5
      have := App.grow (w := w) (v := .slice (some ⟨g, 0, none⟩) xs.length cap) (xs := xs) (new := [u]) (xs.toArray ++ [u].toArray ++ Builtin.zeroCells (Value.int .u8 0).cells (grownCap w (xs.length + 1) cap 5 - (xs.length + 1))) (grownCap w (xs.length + 1) cap 5) w.drew rfl (by rw [hl]; omega) (by rw [hl]; exact hge)
        (by simp only [Array.size_append, List.size_toArray, size_zeroCells, hz1, List.length_cons, List.length_nil]; omega) take_grow
      rw [hl] at this
      exact ⟨_, _, hr, this⟩
/-- What copyCheck leaves. -/
def Chk (w : World) (b : Nat) (p : Value) (w1 : World) : Prop := (p = .pointer (some ⟨b, 0, none⟩) ∧ w1 = w) ∨ (p = .pointer none ∧ w1 = w.setCell ⟨b, 0, none⟩ (.pointer (some ⟨b, 0, none⟩)))
theorem copyCheck_w {t : Nat} (ht : bT t) (b : Nat) (p v : Value) (w : World) (hb : w.heap[b]? = some (.cells #[p, v] t (0, 0))) (hp : p = .pointer none ∨ p = .pointer (some ⟨b, 0, none⟩)) :
    Calls Tryd.prog 54 #[.pointer (some ⟨b, 0, none⟩)] w fun e w' => e = .returned (.tuple #[]) ∧ Chk w b p w' := by
  have c0 : w.cell? ⟨b, 0, none⟩ = some p := by rw [Lib.cell_of_heap hb]; rfl
  rcases hp with rfl | rfl
  · exact (copyCheck_fresh ht b w c0 (by simp [World.shape?, hb]) (Lib.frozen_of_heap hb 0)).mono fun e w' ⟨h1, h2⟩ => ⟨h1, .inr ⟨rfl, h2⟩⟩
  · exact (copyCheck_used b w c0).mono fun e w' ⟨h1, h2⟩ => ⟨h1, .inl ⟨rfl, h2⟩⟩
theorem Chk.block {w w1 : World} {b : Nat} {p v : Value} {t : Nat} (h : Chk w b p w1) (hb : w.heap[b]? = some (.cells #[p, v] t (0, 0))) : w1.heap[b]? = some (.cells #[.pointer (some ⟨b, 0, none⟩), v] t (0, 0)) := by
  rcases h with ⟨rfl, rfl⟩ | ⟨rfl, rfl⟩
  · exact hb
  · have hlt : b < w.heap.size := (Array.getElem?_eq_some_iff.1 hb).1
    simp [World.setCell, Array.getElem?_modify, hb]
theorem Chk.other {w w1 : World} {b : Nat} {p : Value} (h : Chk w b p w1) {k : Nat} (hk : k ≠ b) : w1.heap[k]? = w.heap[k]? := by
  rcases h with ⟨_, rfl⟩ | ⟨_, rfl⟩
  · rfl
  · exact Below.heap_setCell _ _ _ _ (fun e => hk (by simp [e]))
theorem Buf.chk {w w1 : World} {b : Nat} {p v : Value} {xs : List Value} {t : Nat} (h : Chk w b p w1) (hb : w.heap[b]? = some (.cells #[p, v] t (0, 0))) (ht : bT t) (hv : Buf w v xs) : Buf w1 v xs := by
  rcases hv with h1 | ⟨g, cap, cur, h1, h0, hg, h2, h3, h4⟩
  · exact .inl h1
  · refine .inr ⟨g, cap, cur, h1, h0, ?_, h2, h3, h4⟩
    rw [h.other]
    · exact hg
    · rintro rfl
      rw [hb] at hg
      injection hg with hg
      injection hg with _ hg _
      rcases ht with rfl | rfl <;> cases hg
theorem App.block {w w' : World} {v v' : Value} {xs new : List Value} (h : App w v xs new v' w') {b t : Nat} {c : Array Value} (ht : bT t) (hb : w.heap[b]? = some (.cells c t (0, 0))) : w'.heap[b]? = some (.cells c t (0, 0)) := by
  have hlt : b < w.heap.size := (Array.getElem?_eq_some_iff.1 hb).1
  cases h with
  | none _ _ => exact hb
  | grow c G w0 h1 _ _ _ _ => subst h1; exact (heap_alloc_old w.drew _ hlt).trans hb
  | room g cap cur c h1 h2 _ _ _ _ =>
    rw [setRow_other w g b _ ?_]
    · exact hb
    · rintro rfl
      rw [hb] at h2
      injection h2 with h2
      injection h2 with _ h2 _
      rcases ht with rfl | rfl <;> cases h2
theorem App.val {w w' : World} {v v' : Value} {xs new : List Value} (h : App w v xs new v' w') : ∃ a n c, v' = .slice a n c := by
  cases h with
  | none _ h => exact ⟨_, _, _, h⟩
  | grow _ _ _ _ _ _ _ _ => exact ⟨_, _, _, rfl⟩
  | room _ _ _ _ _ _ _ _ _ _ => exact ⟨_, _, _, rfl⟩
theorem store_one (w : World) (b : Nat) (u x : Value) (hu : u.oneCell' = true) (hc : w.cell? ⟨b, 1, none⟩ = some x) (hf : w.frozen? ⟨b, 1, none⟩ = false) : Sem.run Tryd.prog (storeCells ⟨b, 1, none⟩ [u]) w = .ok () (w.setCell ⟨b, 1, none⟩ u) := by
  have h0 : (⟨b, 1, none⟩ : Addr).add 0 = ⟨b, 1, none⟩ := rfl
  have hst : (store ((⟨b, 1, none⟩ : Addr).add 0) u).run Tryd.prog w = .ok () (w.setCell ⟨b, 1, none⟩ u) := by
    rw [h0, run_store Tryd.prog w _ u _ hu, hc]
    simp [hf]
  simp only [storeCells, Sem.run_bind, hst, Result.andThen_ok, Sem.run_pure]
set_option maxHeartbeats 2000000 in
set_option maxRecDepth 100000 in
theorem writeString_w {t : Nat} (ht : bT t) (b : Nat) (pv bv : Value) (xs : List Value) (s : ByteArray) (w : World) (hb : w.heap[b]? = some (.cells #[pv, bv] t (0, 0))) (hp : pv = .pointer none ∨ pv = .pointer (some ⟨b, 0, none⟩)) (hv : Buf w bv xs) (hl : xs.length + s.size ≤ 1099511627776) :
    Calls Tryd.prog 40 #[.pointer (some ⟨b, 0, none⟩), .string s] w fun e w' => e = .returned (.tuple #[.int .i64 s.size, .nilIface]) ∧ ∃ w1 bv' w2, Chk w b pv w1 ∧ App w1 bv xs (Lib.strCells s) bv' w2 ∧ w' = w2.setCell ⟨b, 1, none⟩ bv' := by
  have e54 : ∀ args w, (callFunc 54 args).run Tryd.prog w = .ok (.enter 54 args) w := enters_of Tryd.func54 (by kernel_rfl) rfl
  go_enter Tryd.func40, Tryd.ntmps40
  go_wp2_with (go_at_fn 54; refine (copyCheck_w ht b pv bv _ hb hp).mono ?_)
  rintro e w1 ⟨rfl, hc⟩
  have hbk := hc.block hb
  have c0 : w1.cell? ⟨b, 0, none⟩ = some (.pointer (some ⟨b, 0, none⟩)) := by rw [Lib.cell_of_heap hbk]; rfl
  have c1 : w1.cell? ⟨b, 1, none⟩ = some bv := by rw [Lib.cell_of_heap hbk]; rfl
  obtain ⟨bv', w2, hr, ha⟩ := app_string w1 bv xs s (Buf.chk hc hb ht hv) hl
  go_wp2_with (at_builtin; refine Lib.wpList_append_run _ rfl _ _ _ _ rfl _ _ rfl rfl _ _ hr ?_)
  have hb2 := ha.block ht hbk
  have d0 : w2.cell? ⟨b, 0, none⟩ = some (.pointer (some ⟨b, 0, none⟩)) := by rw [Lib.cell_of_heap hb2]; rfl
  have d1 : w2.cell? ⟨b, 1, none⟩ = some bv := by rw [Lib.cell_of_heap hb2]; rfl
  have f1 : w2.frozen? ⟨b, 1, none⟩ = false := Lib.frozen_of_heap hb2 1
  obtain ⟨a', n', c', rfl⟩ := ha.val
  have hst := store_one w2 b (.slice a' n' c') bv rfl d1 f1
  go_wp2
  rw [hst]
  simp only [Result.andThen]
  rw [Oper.upon_skip]
  go_wp2
  first | go_ret | go_ret2
  exact ⟨rfl, w1, _, w2, hc, ha, rfl⟩
end Go.AM

/- The builder's methods, walked: WriteByte, String. -/
set_option linter.unusedVariables false
set_option linter.unusedSimpArgs false
namespace Go.AM
open Go.RowKit Go.Shelf Go.Proofs
theorem Buf.alloc {w : World} {v : Value} {xs : List Value} (hv : Buf w v xs) (o : Obj) : Buf (w.alloc o) v xs := by
  rcases hv with h1 | ⟨g, cap, cur, h1, h0, hg, h2, h3, h4⟩
  · exact .inl h1
  · exact .inr ⟨g, cap, cur, h1, h0, (heap_alloc_old w o (Array.getElem?_eq_some_iff.1 hg).1).trans hg, h2, h3, h4⟩
set_option maxHeartbeats 2000000 in
set_option maxRecDepth 100000 in
theorem writeByte_w {t : Nat} (ht : bT t) (b : Nat) (pv bv : Value) (xs : List Value) (ch : Int) (w : World) (hb : w.heap[b]? = some (.cells #[pv, bv] t (0, 0))) (hp : pv = .pointer none ∨ pv = .pointer (some ⟨b, 0, none⟩)) (hv : Buf w bv xs) (hl : xs.length + 1 ≤ 1099511627776) :
    Calls Tryd.prog 39 #[.pointer (some ⟨b, 0, none⟩), .int .u8 ch] w fun e w' => e = .returned .nilIface ∧ ∃ w1 bv' w2, Chk w b pv w1 ∧ App (w1.alloc (.cells #[.int .u8 ch] 5)) bv xs [.int .u8 ch] bv' w2 ∧ w' = w2.setCell ⟨b, 1, none⟩ bv' := by
  have e54 : ∀ args w, (callFunc 54 args).run Tryd.prog w = .ok (.enter 54 args) w := enters_of Tryd.func54 (by kernel_rfl) rfl
  go_enter Tryd.func39, Tryd.ntmps39
  go_wp2_with (go_at_fn 54; refine (copyCheck_w ht b pv bv _ hb hp).mono ?_)
  rintro e w1 ⟨rfl, hc⟩
  have hbk := hc.block hb
  have c0 : w1.cell? ⟨b, 0, none⟩ = some (.pointer (some ⟨b, 0, none⟩)) := by rw [Lib.cell_of_heap hbk]; rfl
  have c1 : w1.cell? ⟨b, 1, none⟩ = some bv := by rw [Lib.cell_of_heap hbk]; rfl
  have hbk' : (w1.alloc (.cells #[.int .u8 ch] 5)).heap[b]? = some (.cells #[.pointer (some ⟨b, 0, none⟩), bv] t (0, 0)) := (heap_alloc_old w1 _ (Array.getElem?_eq_some_iff.1 hbk).1).trans hbk
  have hcell : (w1.alloc (.cells #[.int .u8 ch] 5)).cell? ⟨w1.heap.size, 0, none⟩ = some (.int .u8 ch) := by rw [Lib.cell_of_heap (heap_alloc_new (w := w1) _)]; rfl
  obtain ⟨bv', w2, hr, ha⟩ := app_byte (w1.alloc (.cells #[.int .u8 ch] 5)) bv xs (.int .u8 ch) ⟨w1.heap.size, 0, none⟩ hcell rfl ((Buf.chk hc hb ht hv).alloc _) hl
  go_wp2_with (at_builtin; refine Lib.wpList_append_run _ rfl _ _ _ _ rfl _ _ rfl rfl _ _ hr ?_)
  have hb2 := ha.block ht hbk'
  have d0 : w2.cell? ⟨b, 0, none⟩ = some (.pointer (some ⟨b, 0, none⟩)) := by rw [Lib.cell_of_heap hb2]; rfl
  have d1 : w2.cell? ⟨b, 1, none⟩ = some bv := by rw [Lib.cell_of_heap hb2]; rfl
  have f1 : w2.frozen? ⟨b, 1, none⟩ = false := Lib.frozen_of_heap hb2 1
  obtain ⟨a', n', c', rfl⟩ := ha.val
  have hst := store_one w2 b (.slice a' n' c') bv rfl d1 f1
  go_wp2
  rw [hst]
  simp only [Result.andThen]
  rw [Oper.upon_skip]
  go_wp2
  first | go_ret | go_ret2
  exact ⟨rfl, w1, _, w2, hc, ha, rfl⟩
def bcells (l : List UInt8) : List Value := l.map fun c => .int .u8 (c.toNat : Nat)
theorem ptrU : ∃ pt, (Tryd.prog.underlying pt = some (.pointer 5) ∧ pt = 95) := ⟨95, by kernel_rfl, rfl⟩
set_option maxHeartbeats 2000000 in
set_option maxRecDepth 100000 in
theorem string_w (b : Nat) (pv bv : Value) (l : List UInt8) (t : Nat) (w : World) (hb : w.heap[b]? = some (.cells #[pv, bv] t (0, 0))) (hv : Buf w bv (bcells l)) (hl : l.length ≤ 1099511627776) :
    Calls Tryd.prog 31 #[.pointer (some ⟨b, 0, none⟩)] w fun e w' => e = .returned (.string ⟨l.toArray⟩) ∧ ((bv = .slice none 0 0 ∧ w' = w.drew) ∨ ∃ g cap, bv = .slice (some ⟨g, 0, none⟩) l.length cap ∧ w' = w.drew.freeze ⟨g, 0, none⟩ l.length) := by
  have hlen : (bcells l).length = l.length := by simp [bcells]
  have mixed : Tryd.prog.follows Departure.mixedOrders = true := by kernel_rfl
  rcases hv with ⟨rfl, h0⟩ | ⟨g, cap, cur, rfl, h0, hg, hc1, hc2, htk⟩
  · have hl0 : l = [] := by simpa [bcells] using h0
    subst hl0
    have c1 : w.drew.cell? ⟨b, 1, none⟩ = some (.slice none 0 0) := by rw [Lib.cell_of_heap (show w.drew.heap[b]? = _ from hb)]; rfl
    have hSD : (Builtin.unsafeSliceData_ #[66] 95 #[.slice none 0 0]).run Tryd.prog w.drew = .ok (.pointer none) w.drew := rfl
    have hUS : (Builtin.unsafeString_ #[95, 3] 9 #[.pointer none, .int .i64 0]).run Tryd.prog w.drew = .ok (.string .empty) w.drew := Lib.run_unsafeString_none w.drew _ _ _ none
    go_enter Tryd.func31, Tryd.ntmps31
    go_wp2
    go_region_o
    all_goals (go_wp2; go_ret; exact ⟨rfl, .inl ⟨by first | rfl | trivial, rfl⟩⟩)
  · rw [hlen] at h0 hc1 htk
    have c1 : w.drew.cell? ⟨b, 1, none⟩ = some (.slice (some ⟨g, 0, none⟩) (bcells l).length cap) := by rw [Lib.cell_of_heap (show w.drew.heap[b]? = _ from hb)]; rfl
    rw [hlen] at c1
    have hl0 : l ≠ [] := by rintro rfl; simp at h0
    have hSD : (Builtin.unsafeSliceData_ #[66] 95 #[.slice (some ⟨g, 0, none⟩) l.length cap]).run Tryd.prog w.drew = .ok (.pointer (some ⟨g, 0, none⟩)) w.drew := Lib.run_unsafeSliceData_row _ _ _ _ _ _ (by omega)
    have hUS : (Builtin.unsafeString_ #[95, 3] 9 #[.pointer (some ⟨g, 0, none⟩), .int .i64 l.length]).run Tryd.prog w.drew = .ok (.string ⟨l.toArray⟩) (w.drew.freeze ⟨g, 0, none⟩ l.length) := by
      refine Lib.run_unsafeString_row w.drew 95 3 9 5 (by kernel_rfl) (by kernel_rfl) g cur.size (by simp [World.shape?, show w.drew.heap[g]? = _ from hg]) l hl0 (by omega) (by omega) ?_
      intro j x hx
      have hjl : j < l.length := (List.getElem?_eq_some_iff.1 hx).1
      have hj : (bcells l)[j]? = some (.int .u8 (x.toNat : Nat)) := by simp [bcells, hx]
      rw [← htk, List.getElem?_take_of_lt hjl, Array.getElem?_toList] at hj
      have : (⟨g, 0, none⟩ : Addr).add j = ⟨g, j, none⟩ := by unfold Addr.add; split <;> simp_all
      rw [this, Lib.cell_of_heap (show w.drew.heap[g]? = _ from hg)]
      exact hj
    go_enter Tryd.func31, Tryd.ntmps31
    go_wp2
    go_region_o
    all_goals (go_wp2; go_ret; exact ⟨rfl, .inr ⟨g, cap, by rw [hlen], rfl⟩⟩)
end Go.AM

/- The builder as an object of the machine: what is written to it. -/
set_option linter.unusedVariables false
set_option linter.unusedSimpArgs false
namespace Go.AM
open Go.RowKit Go.Proofs
def gW (id : Nat) (new : List V) (H : Heap) : Option Heap :=
  match H[id]? with
  | some (.trow t true [p, v]) =>
    if (t = 68 ∨ t = 70) ∧ (p = .nilp ∨ p = .ptr id 2 0 0) then
      match v with
      | .nil => if new = [] then some (H.set id (.trow t true [.ptr id 2 0 0, .nil])) else if new.length ≤ 1099511627776 then
          some ((H.set id (.trow t true [.ptr id 2 0 0, .nil]) ++ [O.trow 5 false new]).set id (.trow t true [.ptr id 2 0 0, .ref H.length 1 0 new.length])) else none
      | .ref g 1 0 k => match H[g]? with
        | some (.trow 5 false cs) => if cs.length = k ∧ 0 < k ∧ k + new.length ≤ 1099511627776 ∧ g ≠ id then
            some (((H.set id (.trow t true [.ptr id 2 0 0, .ref g 1 0 k])).set g .dead ++ [O.trow 5 false (cs ++ new)]).set id (.trow t true [.ptr id 2 0 0, .ref H.length 1 0 (k + new.length)])) else none
        | _ => none
      | _ => none
    else none
  | _ => none
section
variable {μ : Mu} {S : Nat → Prop} {H : Heap} {w : World}
/-- What the struct's block holds. -/
theorem bld_open (I : Inv μ S H w) {id t b o : Nat} {p v : V} (hx : H[id]? = some (.trow t true [p, v])) (hm : μ id = some (b, o)) (hp : p = .nilp ∨ p = .ptr id 2 0 0) :
    o = 0 ∧ ∃ px vx, w.heap[b]? = some (.cells #[px, vx] t (0, 0)) ∧ (px = .pointer none ∨ px = .pointer (some ⟨b, 0, none⟩)) ∧ VRel μ S w v vx ∧ v.sc = true := by
  obtain ⟨rfl, c, f, h1, h2, h3, h4, h5⟩ := get_trow (I.obj id _ b o hx rfl hm)
  have hs : c.size = 2 := h2 rfl
  have e0 := (h4 0 p rfl).2
  have e1 := (h4 1 v rfl).2
  have hc : c = #[f 0, f 1] := by
    apply Array.ext
    · simpa using hs
    · intro i hi1 hi2
      match i, hi1 with
      | 0, _ => simpa [Array.getElem?_eq_getElem (by omega : 0 < c.size)] using e0
      | 1, _ => simpa [Array.getElem?_eq_getElem (by omega : 1 < c.size)] using e1
      | n + 2, h => omega
  subst hc
  refine ⟨rfl, f 0, f 1, h1, ?_, h5 1 v rfl, (h4 1 v rfl).1⟩
  have r0 := h5 0 p rfl
  generalize f 0 = y at r0 ⊢
  rcases hp with rfl | rfl
  · cases r0; exact .inl rfl
  · cases r0 with
    | ptr _ _ _ _ b' o' hm' =>
      rw [hm] at hm'
      injection hm' with hm'; injection hm' with a1 a2
      subst a1; subst a2
      exact .inr rfl
/-- What its buffer holds. -/
theorem buf_open (I : Inv μ S H w) {g k : Nat} {cs : List V} {vx : Value} (hg : H[g]? = some (.trow 5 false cs)) (hl : cs.length = k) (h0 : 0 < k) (hr : VRel μ S w (.ref g 1 0 k) vx) :
    ∃ bg cap cur, μ g = some (bg, 0) ∧ vx = .slice (some ⟨bg, 0, none⟩) k cap ∧ w.heap[bg]? = some (.cells cur 5 (0, 0)) ∧ k ≤ cap ∧ cap ≤ cur.size ∧ VRels μ S w cs (cur.toList.take k) := by
  generalize hv : V.ref g 1 0 k = v at hr
  cases hr with
  | ref id s off len cap b o c e fz h1 h2 h3 h4 =>
    injection hv with a1 a2 a3 a4
    subst a1; subst a2; subst a3; subst a4
    obtain ⟨rfl, c', f, k1, -, k3, k4, k5⟩ := get_trow (I.obj g _ b o hg rfl h1)
    rw [h2] at k1
    injection k1 with k1; injection k1 with k1 k1' k1''
    subst k1; subst k1'; subst k1''
    refine ⟨b, cap, c, h1, rfl, h2, h3, by omega, VRels.of (by have hc : c.toList.length = c.size := Array.length_toList; rw [List.length_take]; omega) fun j v hj => ?_⟩
    have hjl : j < cs.length := (List.getElem?_eq_some_iff.1 hj).1
    have e1 := (k4 j v hj).2
    have : (c.toList.take k).getD j undef = f j := by
      rw [List.getD_eq_getElem?_getD, List.getElem?_take_of_lt (by omega), Array.getElem?_toList, e1]; rfl
    rw [this]
    exact k5 j v hj
  | ref0 id s off a =>
    injection hv with a1 a2 a3 a4
    omega
  | _ => cases hv
theorem rel_take {cs : List V} {xs : List Value} {c : Array Value} (h : VRels μ S w cs xs) (hsc : ∀ v ∈ cs, v.sc = true) (ht : c.toList.take cs.length = xs) : cs.length ≤ c.size ∧ ∀ (j : Nat) (v : V), cs[j]? = some v → v.sc = true ∧ ∃ x, c[j]? = some x ∧ VRel μ S w v x := by
  have hl := h.length
  have h1 : cs.length ≤ c.size := by
    have hc : c.toList.length = c.size := Array.length_toList
    have h2 : xs.length = min cs.length c.toList.length := by rw [← ht, List.length_take]
    omega
  refine ⟨h1, fun j v hj => ⟨hsc v (List.mem_of_getElem? hj), ?_⟩⟩
  obtain ⟨x, hx, hr⟩ := h.get? j v hj
  have hjl : j < cs.length := (List.getElem?_eq_some_iff.1 hj).1
  rw [← ht, List.getElem?_take_of_lt hjl, Array.getElem?_toList] at hx
  exact ⟨x, hx, hr⟩
theorem ref_new {t : Nat} {μ : Mu} {S : Nat → Prop} {w : World} {id b n cap : Nat} {c : Array Value} (hm : μ id = some (b, 0)) (hb : w.heap[b]? = some (.cells c t (0, 0))) (h1 : n ≤ cap) (h2 : cap ≤ c.size) : VRel μ S w (.ref id 1 0 n) (.slice (some ⟨b, 0, none⟩) n cap) := by
  have := VRel.ref (μ := μ) (S := S) (w := w) id 1 0 n cap b 0 c t (0, 0) hm hb h1 (by omega)
  simpa using this
theorem rels_mono {μ μ' : Mu} {S S' : Nat → Prop} {w w' : World} (m : ∀ v x, VRel μ S w v x → VRel μ' S' w' v x) {vs : List V} {xs : List Value} (h : VRels μ S w vs xs) : VRels μ' S' w' vs xs := by
  induction h with
  | nil => exact .nil
  | cons h _ ih => exact .cons (m _ _ h) ih
/-- A slot of the struct is written. -/
theorem pair_get {p v : V} {px vx : Value} (h1 : p.sc = true ∧ VRel μ S w p px) (h2 : v.sc = true ∧ VRel μ S w v vx) : ∀ (j : Nat) (u : V), [p, v][j]? = some u → u.sc = true ∧ ∃ x, (#[px, vx] : Array Value)[j]? = some x ∧ VRel μ S w u x := by
  intro j u hj
  match j, hj with
  | 0, hj => cases hj; exact ⟨h1.1, px, rfl, h1.2⟩
  | 1, hj => cases hj; exact ⟨h2.1, vx, rfl, h2.2⟩
end
end Go.AM

/- The builder as an object of the machine: a write is sound. -/
set_option linter.unusedVariables false
set_option linter.unusedSimpArgs false
namespace Go.AM
open Go.RowKit Go.Proofs
section
variable {μ : Mu} {S : Nat → Prop} {H : Heap} {w : World}
theorem setCell_row {w : World} {b i : Nat} {c : Array Value} {t : Nat} (hb : w.heap[b]? = some (.cells c t (0, 0))) (u : Value) : w.setCell ⟨b, i, none⟩ u = w.setRow b (c.setIfInBounds i u) := setCell_eq_setRow w b i c t (0, 0) u hb
theorem setRow_same {w : World} {b : Nat} {c : Array Value} {t : Nat} (hb : w.heap[b]? = some (.cells c t (0, 0))) : w.setRow b c = w := setRow_self w b c t (0, 0) hb
/-- copyCheck. -/
theorem chk_sound (I : Inv μ S H w) {id t b : Nat} {p v : V} {px vx : Value} (hx : H[id]? = some (.trow t true [p, v])) (hm : μ id = some (b, 0)) (hb : w.heap[b]? = some (.cells #[px, vx] t (0, 0))) (hr : VRel μ S w v vx) (hs : v.sc = true) {w1 : World} (hc : Chk w b px w1) :
    Inv μ S (H.set id (.trow t true [.ptr id 2 0 0, v])) w1 ∧ Ext μ S H w μ S (H.set id (.trow t true [.ptr id 2 0 0, v])) w1 ∧ w1.heap[b]? = some (.cells #[.pointer (some ⟨b, 0, none⟩), vx] t (0, 0)) := by
  have hself : VRel μ S w (.ptr id 2 0 0) (.pointer (some ⟨b, 0, none⟩)) := by
    have := VRel.ptr (μ := μ) (S := S) (w := w) id 2 0 0 b 0 hm
    simpa using this
  have hw1 : w1 = w.setRow b #[.pointer (some ⟨b, 0, none⟩), vx] := by
    rcases hc with ⟨rfl, rfl⟩ | ⟨rfl, rfl⟩
    · exact (setRow_same hb).symm
    · rw [setCell_row hb]; rfl
  obtain ⟨i, e⟩ := trow_set I hx hm hb (c' := #[.pointer (some ⟨b, 0, none⟩), vx]) (cs' := [.ptr id 2 0 0, v]) rfl (fun _ => rfl) (Nat.le_refl _) (pair_get ⟨rfl, hself⟩ ⟨hs, hr⟩)
  rw [hw1]
  exact ⟨i, e, setRow_heap w b _ _ _ _ hb⟩
/-- The buffer's slice is laid into the struct. -/
theorem lay_sound (I : Inv μ S H w) {id t b : Nat} {v v' : V} {vx vx' : Value} (hx : H[id]? = some (.trow t true [.ptr id 2 0 0, v])) (hm : μ id = some (b, 0)) (hb : w.heap[b]? = some (.cells #[.pointer (some ⟨b, 0, none⟩), vx] t (0, 0))) (hr : VRel μ S w v' vx') (hs : v'.sc = true) :
    Inv μ S (H.set id (.trow t true [.ptr id 2 0 0, v'])) (w.setCell ⟨b, 1, none⟩ vx') ∧ Ext μ S H w μ S (H.set id (.trow t true [.ptr id 2 0 0, v'])) (w.setCell ⟨b, 1, none⟩ vx') := by
  have hself : VRel μ S w (.ptr id 2 0 0) (.pointer (some ⟨b, 0, none⟩)) := by
    have := VRel.ptr (μ := μ) (S := S) (w := w) id 2 0 0 b 0 hm
    simpa using this
  rw [setCell_row hb]
  exact trow_set I hx hm hb (c' := #[.pointer (some ⟨b, 0, none⟩), vx']) (cs' := [.ptr id 2 0 0, v']) rfl (fun _ => rfl) (Nat.le_refl _) (pair_get ⟨rfl, hself⟩ ⟨hs, hr⟩)
theorem drew_eq (w : World) : w.drew = { w with drawn := w.drawn + 1 } := rfl
/-- The whole write. -/
theorem gW_sound (I : Inv μ S H w) {id b o : Nat} {new : List V} {news : List Value} {H' : Heap} (hg : gW id new H = some H') (hm : μ id = some (b, o)) (hn : VRels μ S w new news) (hsc : ∀ v ∈ new, v.sc = true)
    (hplain : ∀ μ S w, VRels μ S w new news) :
    o = 0 ∧ ∃ t px vx xs, bT t ∧ w.heap[b]? = some (.cells #[px, vx] t (0, 0)) ∧ (px = .pointer none ∨ px = .pointer (some ⟨b, 0, none⟩)) ∧ Buf w vx xs ∧ xs.length + news.length ≤ 1099511627776 ∧
      ∀ w1 wa vx' w2, Chk w b px w1 → (wa = w1 ∨ ∃ o, wa = w1.alloc o) → App wa vx xs news vx' w2 → ∃ μ' , μ' id = some (b, 0) ∧ Inv μ' S H' (w2.setCell ⟨b, 1, none⟩ vx') ∧ Ext μ S H w μ' S H' (w2.setCell ⟨b, 1, none⟩ vx') := by
  have hnl : new.length = news.length := hn.length
  unfold gW at hg
  split at hg
  · rename_i t p v hx
    split at hg
    · rename_i hc
      obtain ⟨ht, hp⟩ := hc
      obtain ⟨rfl, px, vx, hb, hpx, hr, hvs⟩ := bld_open I hx hm hp
      have hid : id < H.length := (List.getElem?_eq_some_iff.1 hx).1
      have hge : ∀ x, (H.set id x)[id]? = some x := fun x => List.getElem?_set_self hid
      refine ⟨rfl, t, px, vx, ?_⟩
      -- the world with copyCheck and the literal's row
      have start : ∀ w1 wa, Chk w b px w1 → (wa = w1 ∨ ∃ o, wa = w1.alloc o) → Inv μ S (H.set id (.trow t true [.ptr id 2 0 0, v])) wa ∧ Ext μ S H w μ S (H.set id (.trow t true [.ptr id 2 0 0, v])) wa ∧ wa.heap[b]? = some (.cells #[.pointer (some ⟨b, 0, none⟩), vx] t (0, 0)) := by
        intro w1 wa hc ha
        obtain ⟨i1, e1, hb1⟩ := chk_sound I hx hm hb hr hvs hc
        rcases ha with rfl | ⟨ob, rfl⟩
        · exact ⟨i1, e1, hb1⟩
        · obtain ⟨i2, e2⟩ := inv_below i1 ((Below.refl w1.heap.size w1).alloc (Nat.le_refl _) ob)
          exact ⟨i2, e1.trans e2, (heap_alloc_old w1 ob (Array.getElem?_eq_some_iff.1 hb1).1).trans hb1⟩
      split at hg
      · -- no buffer yet
        cases hr
        refine ⟨[], ht, hb, hpx, .inl ⟨rfl, rfl⟩, ?_, ?_⟩
        · split at hg
          · rename_i h0; subst h0; rw [← hnl]; simp
          · split at hg
            · rw [← hnl]; simpa using ‹_›
            · cases hg
        · intro w1 wa vx' w2 hck hwa happ
          obtain ⟨i1, e1, hb1⟩ := start w1 wa hck hwa
          cases happ with
          | none h1 h2 =>
            have h0 : new = [] := List.eq_nil_of_length_eq_zero (by rw [hnl, h1]; rfl)
            rw [if_pos h0] at hg
            injection hg with hg
            subst hg
            obtain ⟨i2, e2⟩ := lay_sound i1 (hge _) hm hb1 (v' := .nil) (vx' := .slice none 0 0) .nil rfl
            rw [List.set_set] at i2 e2
            exact ⟨μ, hm, i2, e1.trans e2⟩
          | grow c G w0 hw0 kp k1 k2 k3 =>
            have h0 : new ≠ [] := by
              rintro rfl
              cases hn
              simp at kp
            rw [if_neg h0] at hg
            split at hg
            · injection hg with hg
              subst hg
              have iw := i1.drawn (wa.drawn + 1)
              rw [← drew_eq, ← hw0] at iw
              have ew : Ext μ S (H.set id (.trow t true [.ptr id 2 0 0, .nil])) wa μ S (H.set id (.trow t true [.ptr id 2 0 0, .nil])) w0 := hw0 ▸ Ext.drawn _ _ _ _ _
              have hb0 : w0.heap[b]? = some (.cells #[.pointer (some ⟨b, 0, none⟩), .slice none 0 0] t (0, 0)) := by rw [hw0]; exact hb1
              have hsz : wa.heap.size = w0.heap.size := by rw [hw0]; rfl
              rw [List.nil_append] at k1 k3 ⊢
              obtain ⟨r1, r2⟩ := rel_take (c := c) (hplain (μ.lay (H.set id (.trow t true [.ptr id 2 0 0, .nil])).length w0.heap.size) S (w0.alloc (.cells c 5))) hsc (by rw [hnl]; exact k3)
              obtain ⟨i2, e2⟩ := iw.push (.trow 5 false new) (.cells c 5) (trow_mk (heap_alloc_new _) (fun h => by cases h) r1 r2)
              have hm2 : (μ.lay (H.set id (.trow t true [.ptr id 2 0 0, .nil])).length w0.heap.size) id = some (b, 0) := e2.mu _ _ hm
              have hl1 : (H.set id (.trow t true [.ptr id 2 0 0, .nil])).length = H.length := List.length_set ..
              obtain ⟨i3, e3⟩ := lay_sound i2 (by rw [List.getElem?_append_left (by rw [hl1]; exact hid)]; exact hge _) hm2 ((heap_alloc_old w0 _ (Array.getElem?_eq_some_iff.1 hb0).1).trans hb0) (v' := .ref H.length 1 0 new.length) (vx' := .slice (some ⟨wa.heap.size, 0, .none⟩) news.length G)
                (by
                  rw [hnl, hsz]
                  exact ref_new (by have := Mu.lay_self μ H.length w0.heap.size; rw [hl1]; exact this) (heap_alloc_new (w := w0) _) k1 k2) rfl
              exact ⟨_, hm2, i3, ((e1.trans ew).trans e2).trans e3⟩
            · cases hg
          | room g cap cur c h1 _ _ _ _ _ => cases h1
      · -- a buffer there
        rename_i g k
        split at hg
        · rename_i cs hgo
          split at hg
          · rename_i hcd
            obtain ⟨hcl, hk0, hkb, hgi⟩ := hcd
            injection hg with hg
            subst hg
            obtain ⟨bg, cap, cur, hmg, hvx, hbg, hkc, hcc, hrs⟩ := buf_open I hgo hcl hk0 hr
            have hxl : (cur.toList.take k).length = k := by rw [← hrs.length]; exact hcl
            have hcsc : ∀ v ∈ cs ++ new, v.sc = true := by
              obtain ⟨-, c', f', -, -, -, h4, -⟩ := get_trow (I.obj g _ bg 0 hgo rfl hmg)
              intro v hv
              rcases List.mem_append.1 hv with h | h
              · obtain ⟨j, hj⟩ := List.getElem?_of_mem h; exact (h4 j v hj).1
              · exact hsc v h
            refine ⟨cur.toList.take k, ht, hb, hpx, .inr ⟨bg, cap, cur, by rw [hxl]; exact hvx, by omega, hbg, by omega, hcc, by rw [hxl]⟩, by rw [hxl, ← hnl]; exact hkb, ?_⟩
            intro w1 wa vx' w2 hck hwa happ
            obtain ⟨i1, e1, hb1⟩ := start w1 wa hck hwa
            have hl1 : (H.set id (.trow t true [.ptr id 2 0 0, .ref g 1 0 k])).length = H.length := List.length_set ..
            have hg1 : (H.set id (.trow t true [.ptr id 2 0 0, .ref g 1 0 k]))[g]? = some (.trow 5 false cs) := by rw [List.getElem?_set_ne (Ne.symm hgi)]; exact hgo
            have hgl : g < H.length := (List.getElem?_eq_some_iff.1 hgo).1
            have hlen2 : (cur.toList.take k ++ news).length = k + new.length := by rw [List.length_append, hxl, hnl]
            have hrel : ∀ μ' S' w', VRels μ' S' w' cs (cur.toList.take k) → VRels μ' S' w' (cs ++ new) (cur.toList.take k ++ news) := fun μ' S' w' h => h.append (hplain μ' S' w')
            have hlc : (cs ++ new).length = k + new.length := by rw [List.length_append, hcl]
            have hrs1 : VRels μ S wa cs (cur.toList.take k) := hrs.ext I e1
            cases happ with
            | none h1 h2 => rw [hvx] at h2; cases h2
            | grow c G w0 hw0 kp k1 k2 k3 =>
              have iw := i1.drawn (wa.drawn + 1)
              rw [← drew_eq, ← hw0] at iw
              have ew : Ext μ S (H.set id (.trow t true [.ptr id 2 0 0, .ref g 1 0 k])) wa μ S (H.set id (.trow t true [.ptr id 2 0 0, .ref g 1 0 k])) w0 := hw0 ▸ Ext.drawn _ _ _ _ _
              have hb0 : w0.heap[b]? = some (.cells #[.pointer (some ⟨b, 0, none⟩), vx] t (0, 0)) := by rw [hw0]; exact hb1
              have hsz : wa.heap.size = w0.heap.size := by rw [hw0]; rfl
              have hid1 : μ (H.set id (.trow t true [.ptr id 2 0 0, .ref g 1 0 k])).length = none := i1.hnone
              have hrs2 : VRels (μ.lay (H.set id (.trow t true [.ptr id 2 0 0, .ref g 1 0 k])).length w0.heap.size) S (w0.alloc (.cells c 5)) cs (cur.toList.take k) := by
                refine rels_mono (fun v x h => ?_) (hrs1.ext i1 ew)
                exact h.lay iw.sdom hid1 _
              obtain ⟨r1, r2⟩ := rel_take (c := c) (hrel _ _ _ hrs2) hcsc (by rw [hlc, ← hlen2]; exact k3)
              obtain ⟨i2, e2⟩ := iw.push (.trow 5 false (cs ++ new)) (.cells c 5) (trow_mk (heap_alloc_new _) (fun h => by cases h) r1 r2)
              obtain ⟨i3, e3⟩ := i2.kill g
              have hm2 : (μ.lay (H.set id (.trow t true [.ptr id 2 0 0, .ref g 1 0 k])).length w0.heap.size) id = some (b, 0) := e2.mu _ _ hm
              rw [set_app (by rw [hl1]; exact hgl)] at i3 e3
              obtain ⟨i4, e4⟩ := lay_sound i3 (by rw [List.getElem?_append_left (by rw [List.length_set, hl1]; exact hid), List.getElem?_set_ne hgi]; exact hge _) hm2 ((heap_alloc_old w0 _ (Array.getElem?_eq_some_iff.1 hb0).1).trans hb0) (v' := .ref H.length 1 0 (k + new.length)) (vx' := .slice (some ⟨wa.heap.size, 0, .none⟩) (cur.toList.take k ++ news).length G)
                (by
                  rw [hlen2, hsz]
                  exact ref_new (by have := Mu.lay_self μ H.length w0.heap.size; rw [hl1]; exact this) (heap_alloc_new (w := w0) _) (by rw [← hlen2]; exact k1) k2) rfl
              exact ⟨_, hm2, i4, (((e1.trans ew).trans e2).trans e3).trans e4⟩
            | room g' cap' cur' c h1 h2 k1 k2 k3 k4 =>
              rw [hvx, hxl] at h1
              injection h1 with h1 _ h1'
              injection h1 with h1
              injection h1 with h1 _ _
              subst h1
              subst h1'
              obtain ⟨r1, r2⟩ := rel_take (c := c) (hrel _ _ _ hrs1) hcsc (by rw [hlc, ← hlen2]; exact k4)
              obtain ⟨i2, e2⟩ := trow_set i1 hg1 hmg h2 (c' := c) (cs' := cs ++ new) k3 (fun h => by cases h) r1 r2
              obtain ⟨μ', i3, e3, hm3⟩ := i2.renamed (id := g) (List.getElem?_set_self (by rw [hl1]; exact hgl)) rfl hmg
              rw [List.set_set] at i3 e3
              rw [List.length_set, hl1] at hm3
              have hbgne : b ≠ bg := by
                rintro rfl
                exact hgi (I.inj g id _ _ b 0 0 hgo hx rfl rfl hmg hm)
              have hb2 : (wa.setRow bg c).heap[b]? = some (.cells #[.pointer (some ⟨b, 0, none⟩), vx] t (0, 0)) := (setRow_other wa bg b c hbgne).trans hb1
              have hm2 : μ' id = some (b, 0) := e3.mu _ _ hm
              obtain ⟨i4, e4⟩ := lay_sound i3 (by rw [List.getElem?_append_left (by rw [List.length_set, hl1]; exact hid), List.getElem?_set_ne hgi]; exact hge _) hm2 hb2 (v' := .ref H.length 1 0 (k + new.length)) (vx' := .slice (some ⟨bg, 0, .none⟩) (cur.toList.take k ++ news).length cap)
                (by
                  rw [hlen2]
                  exact ref_new hm3 (setRow_heap wa bg _ c _ _ h2) (by rw [← hlen2]; exact k1) (by omega)) rfl
              exact ⟨_, hm2, i4, ((e1.trans e2).trans e3).trans e4⟩
          · cases hg
        · cases hg
      · cases hg
    · cases hg
  · cases hg
end
end Go.AM

/- The builder's methods as entries of the table. -/
set_option linter.unusedVariables false
set_option linter.unusedSimpArgs false
namespace Go.AM
open Go.RowKit Go.Proofs
def eB' (c : UInt8) : V := .int .u8 (c.toNat : Nat)
def gWS : List V → Heap → Option (V × Heap)
  | [.ptr id 2 0 0, .str s], H => (gW id (s.map eB') H).map fun H' => (.tup [.int .i64 (s.length : Nat), .undef], H')
  | _, _ => none
def gWB : List V → Heap → Option (V × Heap)
  | [.ptr id 2 0 0, .int .u8 c], H => (gW id [.int .u8 c] H).map fun H' => (.undef, H')
  | _, _ => none
def unB : V → Option UInt8
  | .int .u8 i => if 0 ≤ i ∧ i < 256 then some (UInt8.ofNat i.toNat) else none
  | _ => none
def gStr : List V → Heap → Option (V × Heap)
  | [.ptr id 2 0 0], H => match H[id]? with
    | some (.trow t true [p, v]) => if p = .nilp ∨ p = .ptr id 2 0 0 then
        match v with
        | .nil => some (.str [], H)
        | .ref g 1 0 k => match H[g]? with
          | some (.trow 5 false cs) => if cs.length = k ∧ 0 < k ∧ k ≤ 1099511627776 then (cs.mapM unB).map fun l => (.str l, H.set g .dead) else none
          | _ => none
        | _ => none
      else none
    | _ => none
  | _, _ => none
section
variable {μ : Mu} {S : Nat → Prop} {H : Heap} {w : World}
theorem ptr_arg {id : Nat} {x : Value} (h : VRel μ S w (.ptr id 2 0 0) x) : ∃ b o, μ id = some (b, o) ∧ x = .pointer (some ⟨b, o, none⟩) := by
  generalize hv : V.ptr id 2 0 0 = v at h
  cases h with
  | ptr i s k fo b o hm => injection hv with a1 a2 a3 a4; subst a1; subst a2; subst a3; subst a4; exact ⟨b, o, hm, by simp⟩
  | _ => cases hv
theorem cells_rel (s : ByteArray) (μ : Mu) (S : Nat → Prop) (w : World) : VRels μ S w (s.data.toList.map eB') (Lib.strCells s) := by
  unfold Lib.strCells
  generalize s.data.toList = l
  induction l with
  | nil => exact .nil
  | cons c r ih => exact .cons (.int _ _) ih
end
theorem grow_len {id : Nat} {new : List V} {H H' : Heap} (h : gW id new H = some H') : H.length ≤ H'.length := by
  unfold gW at h
  repeat' split at h
  all_goals first
    | (cases h; done)
    | (injection h with h; subst h; simp [List.length_set, List.length_append])
theorem writeString_ok : ∀ args H v H', gWS args H = some (v, H') → H.length ≤ H'.length ∧ ∀ (μ : Mu) (S : Nat → Prop) (w : World) (cargs : Array Value), Inv μ S H w → VRels μ S w args cargs.toList →
    Calls Tryd.prog 40 cargs w fun e w' => ∃ cv μ' S', e = .returned cv ∧ VRel μ' S' w' v cv ∧ Inv μ' S' H' w' ∧ Ext μ S H w μ' S' H' w' := by
  intro args H v H' h
  unfold gWS at h
  split at h
  · rename_i id s
    obtain ⟨H1, hg, he⟩ := Option.map_eq_some_iff.1 h
    injection he with e1 e2
    subst e1; subst e2
    refine ⟨grow_len hg, fun μ S w cargs I ha => ?_⟩
    obtain ⟨l⟩ := cargs
    cases ha with
    | cons h1 ha => cases ha with
      | cons h2 ha => cases ha with
        | nil =>
          obtain ⟨b, o, hm, rfl⟩ := ptr_arg h1
          generalize hs : V.str s = sv at h2
          cases h2 with
          | str sb =>
            injection hs with hs
            subst hs
            obtain ⟨rfl, t, px, vx, xs, ht, hb, hpx, hbuf, hle, hk⟩ := gW_sound I hg hm (cells_rel sb μ S w) (fun v hv => by obtain ⟨c, -, rfl⟩ := List.mem_map.1 hv; rfl) (cells_rel sb)
            refine (writeString_w ht b px vx xs sb w hb hpx hbuf (by rw [← Lib.strCells_length]; exact hle)).mono ?_
            rintro e w' ⟨rfl, w1, v', w2, hc, happ, rfl⟩
            obtain ⟨μ', hm', i', e'⟩ := hk w1 w1 v' w2 hc (.inl rfl) happ
            refine ⟨_, μ', S, rfl, ?_, i', e'⟩
            have : (sb.data.toList.length : Nat) = sb.size := Array.length_toList
            rw [this]
            exact VRels.tup (.cons (.int _ _) (.cons (.undef _) .nil))
          | _ => cases hs
  · cases h
theorem writeByte_ok : ∀ args H v H', gWB args H = some (v, H') → H.length ≤ H'.length ∧ ∀ (μ : Mu) (S : Nat → Prop) (w : World) (cargs : Array Value), Inv μ S H w → VRels μ S w args cargs.toList →
    Calls Tryd.prog 39 cargs w fun e w' => ∃ cv μ' S', e = .returned cv ∧ VRel μ' S' w' v cv ∧ Inv μ' S' H' w' ∧ Ext μ S H w μ' S' H' w' := by
  intro args H v H' h
  unfold gWB at h
  split at h
  · rename_i id c
    obtain ⟨H1, hg, he⟩ := Option.map_eq_some_iff.1 h
    injection he with e1 e2
    subst e1; subst e2
    refine ⟨grow_len hg, fun μ S w cargs I ha => ?_⟩
    obtain ⟨l⟩ := cargs
    cases ha with
    | cons h1 ha => cases ha with
      | cons h2 ha => cases ha with
        | nil =>
          obtain ⟨b, o, hm, rfl⟩ := ptr_arg h1
          cases h2
          obtain ⟨rfl, t, px, vx, xs, ht, hb, hpx, hbuf, hle, hk⟩ := gW_sound (news := [.int .u8 c]) I hg hm (.cons (.int _ _) .nil) (fun v hv => by simp at hv; subst hv; rfl) (fun _ _ _ => .cons (.int _ _) .nil)
          refine (writeByte_w ht b px vx xs c w hb hpx hbuf (show xs.length + 1 ≤ 1099511627776 from hle)).mono ?_
          rintro e w' ⟨rfl, w1, v', w2, hc, happ, rfl⟩
          obtain ⟨μ', hm', i', e'⟩ := hk w1 _ v' w2 hc (.inr ⟨_, rfl⟩) happ
          exact ⟨_, μ', S, rfl, .undef _, i', e'⟩
  · cases h
theorem unB_eq {v : V} {c : UInt8} (h : unB v = some c) : v = eB' c := by
  unfold unB at h
  split at h
  · rename_i i
    split at h
    · rename_i hi
      injection h with h
      subst h
      have : ((UInt8.ofNat i.toNat).toNat : Int) = i := by
        have h2 : (UInt8.ofNat i.toNat).toNat = i.toNat % 256 := UInt8.toNat_ofNat'
        rw [h2]; omega
      unfold eB'
      rw [this]
    · cases h
  · cases h
theorem unBs_eq : ∀ {cs : List V} {l : List UInt8}, cs.mapM unB = some l → cs = l.map eB'
  | [], l, h => by simp at h; subst h; rfl
  | v :: r, l, h => by
    simp only [List.mapM_cons, Option.pure_def, Option.bind_eq_bind, Option.bind_eq_some_iff] at h
    obtain ⟨c, h1, l', h2, h3⟩ := h
    injection h3 with h3
    subst h3
    rw [List.map_cons, ← unBs_eq h2, unB_eq h1]
theorem rel_bytes {μ : Mu} {S : Nat → Prop} {w : World} : ∀ {l : List UInt8} {xs : List Value}, VRels μ S w (l.map eB') xs → xs = bcells l
  | [], xs, h => by cases h; rfl
  | c :: r, xs, h => by
    cases h with
    | cons h1 h2 =>
      have e := rel_bytes h2
      unfold eB' at h1
      cases h1
      subst e
      rfl
theorem freeze_heap {w : World} {g n : Nat} {c : Array Value} {t : Nat} (hn : n ≠ 0) (hg : w.heap[g]? = some (.cells c t (0, 0))) : ∃ fz, (w.freeze ⟨g, 0, none⟩ n).heap[g]? = some (.cells c t fz) := by
  have hlt : g < w.heap.size := (Array.getElem?_eq_some_iff.1 hg).1
  refine ⟨(0, 0 + n), ?_⟩
  simp [World.freeze, hn, Array.getElem?_modify, hg]
theorem freeze_other {w : World} {g n k : Nat} (h : k ≠ g) : (w.freeze ⟨g, 0, none⟩ n).heap[k]? = w.heap[k]? := by
  unfold World.freeze
  split
  · rfl
  · simp [Array.getElem?_modify, Ne.symm h]
theorem freeze_size {w : World} {g n : Nat} : (w.freeze ⟨g, 0, none⟩ n).heap.size = w.heap.size := by
  unfold World.freeze
  split
  · rfl
  · simp
theorem string_ok : ∀ args H v H', gStr args H = some (v, H') → H.length ≤ H'.length ∧ ∀ (μ : Mu) (S : Nat → Prop) (w : World) (cargs : Array Value), Inv μ S H w → VRels μ S w args cargs.toList →
    Calls Tryd.prog 31 cargs w fun e w' => ∃ cv μ' S', e = .returned cv ∧ VRel μ' S' w' v cv ∧ Inv μ' S' H' w' ∧ Ext μ S H w μ' S' H' w' := by
  intro args H v H' h
  unfold gStr at h
  split at h
  · rename_i id
    have arg : ∀ {μ : Mu} {S : Nat → Prop} {w : World} {cargs : Array Value}, VRels μ S w [.ptr id 2 0 0] cargs.toList → ∃ b o, μ id = some (b, o) ∧ cargs = #[.pointer (some ⟨b, o, none⟩)] := fun {μ S w cargs} ha => by
      obtain ⟨l⟩ := cargs
      cases ha with
      | cons h1 ha => cases ha with
        | nil =>
          obtain ⟨b, o, hm, rfl⟩ := ptr_arg h1
          exact ⟨b, o, hm, rfl⟩
    split at h
    · rename_i t p v hx
      split at h
      · rename_i hp
        split at h
        · injection h with h; injection h with e1 e2
          subst e1; subst e2
          refine ⟨Nat.le_refl _, fun μ S w cargs I ha => ?_⟩
          obtain ⟨b, o, hm, rfl⟩ := arg ha
          obtain ⟨rfl, px, vx, hb, hpx, hr, hvs⟩ := bld_open I hx hm hp
          cases hr
          refine (string_w b px _ [] t w hb (.inl ⟨rfl, rfl⟩) (Nat.zero_le _)).mono ?_
          rintro e w' ⟨rfl, ⟨-, rfl⟩ | ⟨g, cap, h1, -⟩⟩
          · exact ⟨_, μ, S, rfl, .str ⟨#[]⟩, I.drawn _, Ext.drawn _ _ _ _ _⟩
          · cases h1
        · rename_i g k
          split at h
          · rename_i cs hgo
            split at h
            · rename_i hc
              obtain ⟨hcl, hk0, hkb⟩ := hc
              obtain ⟨l, hl, he⟩ := Option.map_eq_some_iff.1 h
              injection he with e1 e2
              subst e1; subst e2
              refine ⟨by simp, fun μ S w cargs I ha => ?_⟩
              obtain ⟨b, o, hm, rfl⟩ := arg ha
              obtain ⟨rfl, px, vx, hb, hpx, hr, hvs⟩ := bld_open I hx hm hp
              obtain ⟨bg, cap, cur, hmg, hvx, hbg, hkc, hcc, hrs⟩ := buf_open I hgo hcl hk0 hr
              have hcs := unBs_eq hl
              rw [hcs] at hrs
              have hxs := rel_bytes hrs
              have hll : l.length = k := by rw [← hcl, hcs, List.length_map]
              have hbl : (bcells l).length = k := by simp [bcells, hll]
              refine (string_w b px vx l t w hb (.inr ⟨bg, cap, cur, by rw [hbl]; exact hvx, by omega, hbg, by omega, hcc, by rw [hbl]; exact hxs⟩) (by omega)).mono ?_
              rintro e w' ⟨rfl, ⟨h1, -⟩ | ⟨g', cap', h1, rfl⟩⟩
              · rw [hvx] at h1; cases h1
              · rw [hvx] at h1
                injection h1 with h1
                injection h1 with h1
                injection h1 with h1
                subst h1
                obtain ⟨i, x⟩ := (I.drawn (w.drawn + 1)).bury (w' := w.drew.freeze ⟨bg, 0, none⟩ l.length) hgo rfl hmg freeze_size (by unfold World.freeze; split <;> rfl) (by unfold World.freeze; split <;> rfl) (by unfold World.freeze; split <;> rfl) (fun k' hk' => freeze_other hk') (fun c e fz hh => by
                  have hh' : w.drew.heap[bg]? = some (.cells c e fz) := hh
                  have hbg' : w.drew.heap[bg]? = some (.cells cur 5 (0, 0)) := hbg
                  rw [hbg'] at hh'
                  injection hh' with hh'; injection hh' with a1 a2 a3
                  subst a1; subst a2; subst a3
                  obtain ⟨fz', hf⟩ := freeze_heap (n := l.length) (by omega) hbg'
                  exact ⟨_, fz', hf, rfl⟩)
                refine ⟨_, μ, S, rfl, ?_, i, (Ext.drawn _ _ _ _ (w.drawn + 1)).trans x⟩
                exact VRel.str ⟨l.toArray⟩
            · cases h
          · cases h
        · cases h
      · cases h
    · cases h
  · cases h
end Go.AM

set_option linter.unusedVariables false
namespace Go.AM
open Go.Proofs B
abbrev n.law26_TellTells : Nat := 3
abbrev n.law26_TellUnlike : Nat := 4
abbrev n.law26_TellLines : Nat := 5
abbrev n.law08_ShowTells : Nat := 6
abbrev n.law08_ShowBack : Nat := 7
abbrev n.law08_ShowJoins : Nat := 8
abbrev n.law26_few : Nat := 9
abbrev n.law26_awake : Nat := 10
abbrev n.tell_Text : Nat := 11
abbrev n.ref26_Text : Nat := 12
abbrev n.tell_Line : Nat := 13
abbrev n.ref26_Line : Nat := 14
abbrev n.tell_Numbers : Nat := 15
abbrev n.ref26_Numbers : Nat := 16
abbrev n.ref06_Small : Nat := 17
abbrev n.law08_awake : Nat := 18
abbrev n.show_Text : Nat := 19
abbrev n.ref08_Text : Nat := 20
abbrev n.show_Op : Nat := 21
abbrev n.ref08_Op : Nat := 22
abbrev n.ref06_Right : Nat := 23
abbrev n.ref07_Text : Nat := 24
abbrev n.ref06_Same : Nat := 25
abbrev n.ref24_Small : Nat := 26
abbrev n.ref03_Right : Nat := 27
abbrev n.tell_teller__say : Nat := 28
abbrev n.tell_teller__cert : Nat := 29
abbrev n.tell_teller__witness : Nat := 30
abbrev n.strings_Builder__String : Nat := 31
abbrev n.ref03_Pairs : Nat := 32
abbrev n.strings_Join : Nat := 33
abbrev n.num_Put : Nat := 34
abbrev n.ref05_Put : Nat := 35
abbrev n.ref06_Count : Nat := 36
abbrev n.ref06_Flat : Nat := 37
abbrev n.hist_Right : Nat := 38
abbrev n.strings_Builder__WriteByte : Nat := 39
abbrev n.strings_Builder__WriteString : Nat := 40
abbrev n.ref06_Name : Nat := 41
abbrev n.ref07_one : Nat := 42
abbrev n.ref03_Small : Nat := 43
abbrev n.ref02_Words : Nat := 44
abbrev n.ref02_Has : Nat := 45
abbrev n.mat_Pairs : Nat := 46
abbrev n.ref02_List : Nat := 47
abbrev n.strings_Builder__Grow : Nat := 48
abbrev n.strconv_Itoa : Nat := 49
abbrev n.hist_Flat : Nat := 50
abbrev n.slices_ContainsFunc___api_Op_api_Op : Nat := 51
abbrev n.hist_Right_1 : Nat := 52
abbrev n.hist_named : Nat := 53
abbrev n.strings_Builder__copyCheck : Nat := 54
abbrev n.ref05_Span : Nat := 55
abbrev n.ref05_Get : Nat := 56
abbrev n.ref01_Has : Nat := 57
abbrev n.row_List : Nat := 58
abbrev n.strings_Builder__grow : Nat := 59
abbrev n.slices_Concat___api_Op_api_Op : Nat := 61
abbrev n.slices_IndexFunc___api_Op_api_Op : Nat := 62
abbrev n.strings_Trim : Nat := 63
abbrev n.ref01_Bit : Nat := 65
abbrev n.word_First : Nat := 66
abbrev n.slices_Grow___api_Op_api_Op : Nat := 69
abbrev n.strings_trimLeftByte : Nat := 70
abbrev n.strings_trimRightByte : Nat := 71
abbrev n.strings_makeASCIISet : Nat := 72
abbrev n.strings_trimLeftASCII : Nat := 73
abbrev n.strings_trimRightASCII : Nat := 74
abbrev n.strings_trimLeftUnicode : Nat := 75
abbrev n.strings_trimRightUnicode : Nat := 76
abbrev n.math_bits_TrailingZeros64 : Nat := 77
abbrev n.strings_asciiSet__contains : Nat := 82
abbrev n.strings_ContainsRune : Nat := 84
abbrev n.math_bits_Len64 : Nat := 87
abbrev n.math_bits_TrailingZeros : Nat := 90
abbrev n.math_bits_TrailingZeros32 : Nat := 94
abbrev n.strings_IndexByte : Nat := 95
def b.law26_TellTells : BF := ⟨3, true, .scal, [.t 6], (.seq (.reg [.eff [] 6 (some 3) (box 19 false) [(x 0)]] 14 []) (.seq (.ife [] 14 [] (.or (.or (nt (.call n.law26_few [(ldn 19 (x 3))])) (gt (len (x 1)) (k 40))) (gt (len (x 2)) (k 40))) (.seq (.reg [] 64 [(6, (.call n.law26_awake []))]) .ret) .skip) (.seq (.reg [] 142 [(7, (k 0))]) (.seq (.seq (.reg [] 398 [(8, (k 0))]) (.block 0 (.loop (.seq (.ife [] 398 [] (lt (x 8) (len (x 1))) .skip (.exit 0)) (.seq (.block 1 (.reg [] 398 [(7, (add (x 7) (sln (ld (ia 1 (x 1) (x 8))))))])) (.reg [] 398 [(8, (add (x 8) (k 1)))])))))) (.seq (.ife [] 14 [] (gt (x 7) (k 1000)) (.seq (.reg [] 64 [(6, (.call n.law26_awake []))]) .ret) .skip) (.seq (.reg [] 64 [(6, (.and (.and (.and (.call n.law26_awake []) (eq (.call n.tell_Text [(ldn 19 (x 3))]) (.call n.ref26_Text [(ldn 19 (x 3))]))) (eq (.call n.tell_Line [(x 1)]) (.call n.ref26_Line [(x 1)]))) (eq (.call n.tell_Numbers [(.c (.str [120])), (x 2)]) (.call n.ref26_Numbers [(.c (.str [120])), (x 2)]))))]) .ret))))))⟩
def b.law26_TellUnlike : BF := ⟨1, true, .scal, [.t 2], (.seq (.reg [.eff [] 0 (some 1) (box 18 false) [(x 0)]] 2 []) (.seq (.raw 120 [⟨(some 9), (.p (.fad 0 (.t 1))), none, 0⟩, ⟨(some 10), (.r (.load ⟨true, 8⟩ (.t 9))), none, 0⟩, ⟨(some 11), (.p (.fad 8 (.t 1))), none, 1⟩, ⟨(some 12), (.r (.load ⟨true, 8⟩ (.t 11))), none, 1⟩, ⟨(some 13), (.p (.fad 16 (.t 1))), none, 2⟩, ⟨(some 14), (.r (.load ⟨false, 1⟩ (.t 13))), none, 2⟩, ⟨(some 15), (.p (.fad 17 (.t 1))), none, 2⟩, ⟨(some 16), (.r (.load ⟨false, 1⟩ (.t 15))), none, 2⟩, ⟨(some 3), (.l (.alloc 8 false (.agg [(.int .i64 0), (.int .i64 0), (.int .i64 0), (.int .i64 0), (.int .i64 0), .nil, (.int .i64 0), (.int .i64 0)]))), none, 0⟩, ⟨(some 4), (.l (.alloc 8 false (.agg [(.int .i64 0), (.int .i64 0), (.int .i64 0), (.int .i64 0), (.int .i64 0), .nil, (.int .i64 0), (.int .i64 0)]))), none, 0⟩, ⟨none, (.e (.store 8 (.t 3) (.t 10))), none, 0⟩, ⟨none, (.e (.store 8 (.t 4) (.t 12))), none, 0⟩, ⟨(some 5), (.p (.mov (.t 14))), none, 0⟩, ⟨(some 6), (.p (.mov (.t 16))), none, 0⟩]) (.seq (.ife [] 120 [] (.or (gt (len (ld (fa 5 (x 3)))) (k 60)) (gt (len (ld (fa 5 (x 4)))) (k 60))) (.seq (.reg [] 4 [(2, (.call n.law26_awake []))]) .ret) .skip) (.seq (.reg [] 248 [(7, (.and (.and (.and (.and (.and (.and (.and (.and (eq (x 5) (x 6)) (eq (ld (fa 0 (x 3))) (ld (fa 0 (x 4))))) (eq (ld (fa 1 (x 3))) (ld (fa 1 (x 4))))) (eq (ld (fa 2 (x 3))) (ld (fa 2 (x 4))))) (eq (ld (fa 3 (x 3))) (ld (fa 3 (x 4))))) (eq (ld (fa 4 (x 3))) (ld (fa 4 (x 4))))) (eq (ld (fa 6 (x 3))) (ld (fa 6 (x 4))))) (eq (ld (fa 7 (x 3))) (ld (fa 7 (x 4))))) (eq (len (ld (fa 5 (x 3)))) (len (ld (fa 5 (x 4)))))))]) (.seq (.seq (.reg [] 504 [(8, (k 0))]) (.block 0 (.loop (.seq (.ife [] 504 [] (.and (lt (x 8) (len (ld (fa 5 (x 3))))) (x 7)) .skip (.exit 0)) (.seq (.block 1 (.reg [] 504 [(7, (.p (.eqs false [(.int .i64), (.int .i64), (.int .i64), (.int .i64), (.int .i64)] (.t 0) (.t 1)) [(ldn 5 (ia 5 (ld (fa 5 (x 3))) (x 8))), (ldn 5 (ia 5 (ld (fa 5 (x 4))) (x 8)))]))])) (.reg [] 504 [(8, (add (x 8) (k 1)))])))))) (.seq (.reg [] 4 [(2, (.and (.call n.law26_awake []) (.p (.beq false (.t 0) (.t 1)) [(eq (.call n.tell_Text [(.p (.build [(.int .i64 0), (.int .i64 0), (.int .i64 0), (.int .i64 0), (.int .i64 0), (.bool false), (.int .i64 0), (.int .i64 0), .nil, .nil, .nil, (.int .i64 0), (.int .i64 0), (.int .i64 0), (.int .i64 0), (.int .i64 0), .nil, (.int .i64 0), (.int .i64 0)] [(4, 1, (.t 0)), (11, 8, (.t 1))]) [(x 5), (ldn 8 (x 3))])]) (.call n.tell_Text [(.p (.build [(.int .i64 0), (.int .i64 0), (.int .i64 0), (.int .i64 0), (.int .i64 0), (.bool false), (.int .i64 0), (.int .i64 0), .nil, .nil, .nil, (.int .i64 0), (.int .i64 0), (.int .i64 0), (.int .i64 0), (.int .i64 0), .nil, (.int .i64 0), (.int .i64 0)] [(4, 1, (.t 0)), (11, 8, (.t 1))]) [(x 6), (ldn 8 (x 4))])])), (x 7)])))]) .ret))))))⟩
def b.law26_TellLines : BF := ⟨3, true, .scal, [.t 6], (.seq (.reg [.eff [] 6 (some 3) (box 8 false) [(x 0)]] 14 []) (.seq (.ife [] 14 [] (gt (len (ld (fa 5 (x 3)))) (k 60)) (.seq (.reg [] 64 [(6, (.call n.law26_awake []))]) .ret) .skip) (.seq (.reg [] 140 [(7, (.call n.tell_Text [(.p (.build [(.int .i64 0), (.int .i64 0), (.int .i64 0), (.int .i64 0), (.int .i64 0), (.bool false), (.int .i64 0), (.int .i64 0), .nil, .nil, .nil, (.int .i64 0), (.int .i64 0), (.int .i64 0), (.int .i64 0), (.int .i64 0), .nil, (.int .i64 0), (.int .i64 0)] [(4, 1, (.t 0)), (11, 8, (.t 1))]) [(x 1), (ldn 8 (x 3))])]))]) (.seq (.reg [] 392 [(8, (.call n.tell_Text [(.p (.build [(.int .i64 0), (.int .i64 0), (.int .i64 0), (.int .i64 0), (.int .i64 0), (.bool false), (.int .i64 0), (.int .i64 0), .nil, .nil, .nil, (.int .i64 0), (.int .i64 0), (.int .i64 0), (.int .i64 0), (.int .i64 0), .nil, (.int .i64 0), (.int .i64 0)] [(0, 1, (.t 0)), (1, 1, (.t 1))]) [(k 2), (x 2)])]))]) (.seq (.reg [] 1928 [(10, (k 0)), (9, (k 0))]) (.seq (.seq (.reg [] 3976 [(11, (k 0))]) (.block 0 (.loop (.seq (.ife [] 3976 [] (lt (x 11) (sln (x 7))) .skip (.exit 0)) (.seq (.block 1 (.ife [] 3976 [] (eq (ix (x 7) (x 11)) (kc 10)) (.reg [] 3976 [(9, (add (x 9) (k 1)))]) .skip)) (.reg [] 3976 [(11, (add (x 11) (k 1)))])))))) (.seq (.seq (.reg [] 5896 [(12, (k 0))]) (.block 2 (.loop (.seq (.ife [] 5896 [] (lt (x 12) (sln (x 8))) .skip (.exit 2)) (.seq (.block 3 (.ife [] 5896 [] (eq (ix (x 8) (x 12)) (kc 10)) (.reg [] 5896 [(10, (add (x 10) (k 1)))]) .skip)) (.reg [] 5896 [(12, (add (x 12) (k 1)))])))))) (.seq (.reg [] 64 [(6, (.and (.and (.call n.law26_awake []) (eq (x 9) (add (k 2) (len (ld (fa 5 (x 3))))))) (eq (x 10) (k 1))))]) .ret))))))))⟩
def b.law08_ShowTells : BF := ⟨2, true, .scal, [.t 4], (.seq (.reg [.eff [] 1 (some 3) (box 3 true) [(x 1)]] 9 []) (.seq (.ife [] 9 [] (.or (nt (.call n.ref06_Small [(x 0), (k 60)])) (gt (sln (ld (fa 1 (x 3)))) (k 20))) (.seq (.reg [] 16 [(4, (.call n.law08_awake []))]) .ret) .skip) (.seq (.reg [] 105 [(6, (xt (.call n.show_Text [(x 0)]) 1)), (5, (xt (.call n.show_Text [(x 0)]) 0))]) (.seq (.reg [] 488 [(8, (xt (.call n.ref08_Text [(x 0)]) 1)), (7, (xt (.call n.ref08_Text [(x 0)]) 0))]) (.seq (.reg [] 16 [(4, (.and (.and (.and (.call n.law08_awake []) (eq (x 5) (x 7))) (eq (x 6) (x 8))) (eq (.call n.show_Op [(ldn 3 (x 3))]) (.call n.ref08_Op [(ldn 3 (x 3))]))))]) .ret)))))⟩
def b.law08_ShowBack : BF := ⟨2, true, .scal, [.t 4], (.seq (.reg [] 3 []) (.seq (.ife [] 3 [] (.or (nt (.call n.ref06_Small [(x 0), (k 60)])) (gt (sln (x 1)) (k 1000))) (.seq (.reg [] 16 [(4, (.call n.law08_awake []))]) .ret) .skip) (.seq (.reg [] 99 [(6, (xt (.call n.show_Text [(x 0)]) 1)), (5, (xt (.call n.show_Text [(x 0)]) 0))]) (.seq (.ife [] 99 [] (.p (.beq true (.t 0) (.t 1)) [(eq (x 6) (k 0)), (.call n.ref06_Right [(x 0)])]) (.seq (.reg [] 16 [(4, (kb false))]) .ret) .skip) (.seq (.reg [ck (xt (.call n.ref07_Text [(x 5)]) 1)] 707 [(9, (xt (.call n.ref07_Text [(x 5)]) 2)), (7, (xt (.call n.ref07_Text [(x 5)]) 0))]) (.seq (.ife [] 2 [] (.and (eq (x 6) (k 0)) (.or (ne (x 9) (k 0)) (nt (.call n.ref06_Same [(x 7), (x 0)])))) (.seq (.reg [] 16 [(4, (kb false))]) .ret) .skip) (.seq (.reg [ck (xt (.call n.ref07_Text [(x 1)]) 1)] 1538 [(9, (xt (.call n.ref07_Text [(x 1)]) 2)), (10, (xt (.call n.ref07_Text [(x 1)]) 0))]) (.seq (.reg [] 12802 [(13, (xt (.call n.show_Text [(x 10)]) 1)), (12, (xt (.call n.show_Text [(x 10)]) 0))]) (.seq (.reg [] 16 [(4, (.and (.call n.law08_awake []) (.or (ne (x 9) (k 0)) (.and (eq (x 13) (k 0)) (eq (x 12) (x 1))))))]) .ret)))))))))⟩
def b.law08_ShowJoins : BF := ⟨2, true, .scal, [.t 4], (.seq (.reg [] 3 []) (.seq (.ife [] 3 [] (.or (nt (.call n.ref06_Small [(x 0), (k 40)])) (nt (.call n.ref06_Small [(x 1), (k 40)]))) (.seq (.reg [] 16 [(4, (.call n.law08_awake []))]) .ret) .skip) (.seq (.reg [] 99 [(6, (xt (.call n.show_Text [(x 0)]) 1)), (5, (xt (.call n.show_Text [(x 0)]) 0))]) (.seq (.reg [] 483 [(8, (xt (.call n.show_Text [(x 1)]) 1)), (7, (xt (.call n.show_Text [(x 1)]) 0))]) (.seq (.reg [.eff [] 483 (some 31) (.l (.mks 1 false [.nil] 0 [])) [], .eff [] 482 (some 33) (apd 1 false 24) [(x 31), (x 0)], .eff [] 480 (some 35) (apd 1 false 24) [(x 33), (x 1)]] 2016 [(10, (xt (.call n.show_Text [(x 35)]) 1)), (9, (xt (.call n.show_Text [(x 35)]) 0))]) (.seq (.reg [] 16 [(4, (.and (.and (.call n.law08_awake []) (.p (.beq false (.t 0) (.t 1)) [(eq (x 10) (k 0)), (.and (eq (x 6) (k 0)) (eq (x 8) (k 0)))])) (.or (ne (x 10) (k 0)) (eq (x 9) (add (x 5) (x 7))))))]) .ret))))))⟩
def b.law26_few : BF := ⟨1, true, .scal, [.t 2], (.seq (.reg [.eff [] 0 (some 1) (box 19 false) [(x 0)]] 2 []) (.seq (.reg [] 4 [(2, (.and (.and (.call n.ref24_Small [(ldn 5 (fa 6 (x 1))), (k 16)]) (.call n.ref03_Right [(ldn 2 (fa 1 (fa 6 (x 1))))])) (le (len (ld (fa 5 (fa 11 (x 1))))) (k 60))))]) .ret))⟩
def b.law26_awake : BF := ⟨0, true, .scal, [.t 0], (.seq (.reg [] 0 []) (.seq (.raw 1 [⟨(some 1), (.p (.build [(.int .i64 0), (.int .i64 0), (.int .i64 0), (.int .i64 0), (.int .i64 0), (.bool false), (.int .i64 0), (.int .i64 0), .nil, .nil, .nil, (.int .i64 0), (.int .i64 0), (.int .i64 0), (.int .i64 0), (.int .i64 0), .nil, (.int .i64 0), (.int .i64 0)] [(0, 1, (.c (.int .i64 2))), (1, 1, (.c (.int .i64 5)))])), none, 0⟩, ⟨(some 2), (.e (.call n.tell_Text [(.t 1)])), none, 0⟩, ⟨(some 3), (.p (.bin .eql (.t 2) (.c (.str [101, 114, 114, 111, 114, 32, 50, 32, 53, 32, 48, 32, 48, 10])))), none, 0⟩, ⟨(some 4), (.p (.mov (.t 3))), none, 0⟩, ⟨(some 5), (.l (.mks 1 true [(.str [])] 2 [(0, (.c (.str [97]))), (1, (.c (.str [98])))])), (some (4, true)), 0⟩, ⟨(some 6), (.e (.call n.tell_Line [(.t 5)])), (some (4, true)), 0⟩, ⟨(some 7), (.p (.bin .eql (.t 6) (.c (.str [97, 32, 98, 10])))), (some (4, true)), 0⟩, ⟨(some 8), (.p (.pick (.t 4) (.t 7) (.c (.bool false)))), none, 0⟩, ⟨(some 9), (.p (.mov (.t 8))), none, 0⟩, ⟨(some 10), (.e (.call n.tell_Numbers [(.c (.str [97, 114, 98])), (.c .nil)])), (some (9, true)), 0⟩, ⟨(some 11), (.p (.bin .eql (.t 10) (.c (.str [97, 114, 98, 10])))), (some (9, true)), 0⟩, ⟨(some 12), (.p (.pick (.t 9) (.t 11) (.c (.bool false)))), none, 0⟩, ⟨(some 0), (.p (.mov (.t 12))), none, 0⟩]) .ret))⟩
def b.tell_Text : BF := ⟨1, true, .scal, [.t 2], (.seq (.reg [.eff [] 0 (some 1) (box 19 false) [(x 0)]] 2 []) (.seq (.reg [.eff [] 2 (some 5) (.l (.boxT 70 (.t 0))) [(.p (.build [.nilp, .nil] []) [])]] 10 [(3, (x 5))]) (.seq (.block 0 (.ife [] 10 [] (ne (ld (fa 0 (x 1))) (k 0)) (.reg [.eff [(19, (x 3))] 524296 (some 28) (.l (.mks 1 true [(.int .i64 0)] 4 [(0, (.t 0)), (1, (.t 1)), (2, (.t 2)), (3, (.t 3))])) [(ld (fa 0 (x 1))), (ld (fa 1 (x 1))), (ld (fa 2 (x 1))), (ld (fa 3 (x 1)))], .eff [] 8 (some 29) (.call n.tell_teller__say) [(x 19), (.c (.str [101, 114, 114, 111, 114])), (x 28)]] 8 []) (.ife [] 10 [] (ld (fa 5 (x 1))) (.seq (.reg [.eff [(33, (x 3))] 8589934602 (some 36) (one 1 true [(.int .i64 0)]) [(ld (fa 4 (x 1)))], .eff [] 10 (some 37) (.call n.tell_teller__say) [(x 33), (.c (.str [99, 111, 110, 115, 105, 115, 116, 101, 110, 116])), (x 36)]] 10 []) (.reg [.eff [] 8 (some 41) (.call n.tell_teller__cert) [(x 3), (ldn 5 (fa 6 (x 1)))]] 8 [])) (.seq (.reg [.eff [(6, (x 3))] 74 (some 9) (one 1 true [(.int .i64 0)]) [(ld (fa 4 (x 1)))], .eff [] 10 (some 10) (.call n.tell_teller__say) [(x 6), (.c (.str [105, 110, 99, 111, 110, 115, 105, 115, 116, 101, 110, 116])), (x 9)]] 10 []) (.reg [.eff [] 8 (some 14) (.call n.tell_teller__witness) [(x 3), (ldn 8 (fa 11 (x 1)))]] 8 []))))) (.seq (.reg [.eff [] 0 (some 45) (.call n.strings_Builder__String) [(fa 0 (nk (x 3)))]] 4 [(2, (x 45))]) .ret))))⟩
def b.ref26_Text : BF := ⟨1, true, .scal, [.t 2], (.seq (.reg [.eff [] 0 (some 1) (box 19 false) [(x 0)]] 2 []) (.seq (.ife [] 2 [] (ne (ld (fa 0 (x 1))) (k 0)) (.seq (.reg [.eff [] 0 (some 22) (.l (.mks 1 true [(.int .i64 0)] 4 [(0, (.t 0)), (1, (.t 1)), (2, (.t 2)), (3, (.t 3))])) [(ld (fa 0 (x 1))), (ld (fa 1 (x 1))), (ld (fa 2 (x 1))), (ld (fa 3 (x 1)))]] 4 [(2, (.call n.ref26_Numbers [(.c (.str [101, 114, 114, 111, 114])), (x 22)]))]) .ret) .skip) (.seq (.ife [] 2 [] (nt (ld (fa 5 (x 1)))) (.seq (.reg [.eff [(28, (ldn 8 (fa 11 (x 1))))] 268435458 (some 3) (alo 8 false (.agg [(.int .i64 0), (.int .i64 0), (.int .i64 0), (.int .i64 0), (.int .i64 0), .nil, (.int .i64 0), (.int .i64 0)])) [], .eff [] 10 none (sto 8) [(x 3), (x 28)]] 10 []) (.seq (.raw 24 [⟨(some 29), (.p (.fad 4 (.t 1))), none, 0⟩, ⟨(some 30), (.r (.load ⟨false, 1⟩ (.t 29))), none, 0⟩, ⟨(some 31), (.l (.mks 1 true [(.int .i64 0)] 1 [(0, (.t 30))])), none, 0⟩, ⟨(some 33), (.p (.fad 0 (.t 3))), none, 1⟩, ⟨(some 34), (.r (.load ⟨false, 1⟩ (.t 33))), none, 1⟩, ⟨(some 35), (.p (.fad 1 (.t 3))), none, 1⟩, ⟨(some 36), (.r (.load ⟨false, 1⟩ (.t 35))), none, 1⟩, ⟨(some 37), (.p (.fad 2 (.t 3))), none, 1⟩, ⟨(some 38), (.r (.load ⟨false, 1⟩ (.t 37))), none, 1⟩, ⟨(some 39), (.p (.fad 3 (.t 3))), none, 1⟩, ⟨(some 40), (.r (.load ⟨false, 1⟩ (.t 39))), none, 1⟩, ⟨(some 41), (.p (.fad 4 (.t 3))), none, 1⟩, ⟨(some 42), (.r (.load ⟨false, 1⟩ (.t 41))), none, 1⟩, ⟨(some 43), (.p (.fad 6 (.t 3))), none, 1⟩, ⟨(some 44), (.r (.load ⟨false, 1⟩ (.t 43))), none, 1⟩, ⟨(some 45), (.p (.fad 7 (.t 3))), none, 1⟩, ⟨(some 46), (.r (.load ⟨false, 1⟩ (.t 45))), none, 1⟩, ⟨(some 47), (.l (.mks 1 true [(.int .i64 0)] 7 [(0, (.t 34)), (1, (.t 36)), (2, (.t 38)), (3, (.t 40)), (4, (.t 42)), (5, (.t 44)), (6, (.t 46))])), none, 1⟩, ⟨(some 32), (.e (.call n.ref26_Numbers [(.c (.str [105, 110, 99, 111, 110, 115, 105, 115, 116, 101, 110, 116])), (.t 31)])), none, 0⟩, ⟨(some 48), (.e (.call n.ref26_Numbers [(.c (.str [112, 97, 116, 116, 101, 114, 110])), (.t 47)])), none, 0⟩, ⟨(some 49), (.p (.bin .add (.t 32) (.t 48))), none, 0⟩, ⟨(some 4), (.p (.mov (.t 49))), none, 0⟩]) (.seq (.seq (.reg [] 56 [(5, (k 0))]) (.block 0 (.loop (.seq (.ife [] 56 [] (lt (x 5) (len (ld (fa 5 (x 3))))) .skip (.exit 0)) (.seq (.block 1 (.seq (.reg [.eff [(61, (ldn 5 (ia 5 (ld (fa 5 (x 3))) (x 5))))] 2305843009213694008 (some 6) (alo 5 true (.agg [(.int .i64 0), (.int .i64 0), (.int .i64 0), (.int .i64 0), (.int .i64 0)])) [], .eff [] 120 none (sto 5) [(x 6), (x 61)]] 120 []) (.reg [.eff [(62, (x 4))] 4611686018427387944 (some 73) (.l (.mks 1 true [(.int .i64 0)] 5 [(0, (.t 0)), (1, (.t 1)), (2, (.t 2)), (3, (.t 3)), (4, (.t 4))])) [(ld (fa 0 (x 6))), (ld (fa 1 (x 6))), (ld (fa 2 (x 6))), (ld (fa 3 (x 6))), (ld (fa 4 (x 6)))]] 56 [(4, (add (x 62) (.call n.ref26_Numbers [(.c (.str [115, 116, 101, 112])), (x 73)])))]))) (.reg [] 56 [(5, (add (x 5) (k 1)))])))))) (.seq (.reg [] 4 [(2, (x 4))]) .ret)))) .skip) (.seq (.raw 130 [⟨(some 77), (.p (.fad 4 (.t 1))), none, 0⟩, ⟨(some 78), (.r (.load ⟨false, 1⟩ (.t 77))), none, 0⟩, ⟨(some 79), (.l (.mks 1 true [(.int .i64 0)] 1 [(0, (.t 78))])), none, 0⟩, ⟨(some 81), (.p (.fad 6 (.t 1))), none, 1⟩, ⟨(some 82), (.p (.fad 1 (.t 81))), none, 1⟩, ⟨(some 83), (.p (.fad 0 (.t 82))), none, 1⟩, ⟨(some 84), (.r (.load ⟨false, 1⟩ (.t 83))), none, 1⟩, ⟨(some 85), (.l (.mks 1 true [(.int .i64 0)] 1 [(0, (.t 84))])), none, 1⟩, ⟨(some 80), (.e (.call n.ref26_Numbers [(.c (.str [99, 111, 110, 115, 105, 115, 116, 101, 110, 116])), (.t 79)])), none, 0⟩, ⟨(some 86), (.e (.call n.ref26_Numbers [(.c (.str [111, 114, 100, 101, 114])), (.t 85)])), none, 0⟩, ⟨(some 87), (.p (.bin .add (.t 80) (.t 86))), none, 0⟩, ⟨(some 7), (.p (.mov (.t 87))), none, 0⟩]) (.seq (.reg [] 386 [(8, (.call n.ref03_Pairs [(ldn 2 (fa 1 (fa 6 (x 1))))]))]) (.seq (.seq (.reg [] 898 [(9, (k 0))]) (.block 2 (.loop (.seq (.ife [] 898 [] (lt (x 9) (len (x 8))) .skip (.exit 2)) (.seq (.block 3 (.raw 898 [⟨(some 98), (.p (.mov (.t 7))), none, 1⟩, ⟨(some 99), (.p (.mov (.t 8))), none, 0⟩, ⟨(some 100), (.p (.mov (.t 9))), none, 0⟩, ⟨(some 101), (.p (.iad 2 (.t 99) (.t 100))), none, 0⟩, ⟨(some 102), (.p (.iar 2 1 (.t 101) (.c (.int .i64 0)))), none, 0⟩, ⟨(some 103), (.r (.load ⟨false, 1⟩ (.t 102))), none, 0⟩, ⟨(some 104), (.p (.mov (.t 8))), none, 0⟩, ⟨(some 105), (.p (.mov (.t 9))), none, 0⟩, ⟨(some 106), (.p (.iad 2 (.t 104) (.t 105))), none, 0⟩, ⟨(some 107), (.p (.iar 2 1 (.t 106) (.c (.int .i64 1)))), none, 0⟩, ⟨(some 108), (.r (.load ⟨false, 1⟩ (.t 107))), none, 0⟩, ⟨(some 109), (.l (.mks 1 true [(.int .i64 0)] 2 [(0, (.t 103)), (1, (.t 108))])), none, 0⟩, ⟨(some 110), (.e (.call n.ref26_Numbers [(.c (.str [112, 97, 105, 114])), (.t 109)])), none, 0⟩, ⟨(some 111), (.p (.bin .add (.t 98) (.t 110))), none, 0⟩, ⟨(some 7), (.p (.mov (.t 111))), none, 0⟩])) (.reg [] 898 [(9, (add (x 9) (k 1)))])))))) (.seq (.reg [] 130 [(7, (add (x 7) (.call n.ref26_Numbers [(.c (.str [97, 114, 98])), (ld (fa 3 (fa 6 (x 1))))])))]) (.seq (.seq (.reg [] 1154 [(10, (k 0))]) (.block 4 (.loop (.seq (.ife [] 1154 [] (lt (x 10) (len (ld (fa 4 (fa 6 (x 1)))))) .skip (.exit 4)) (.seq (.block 5 (.reg [] 1154 [(7, (add (x 7) (.call n.ref26_Numbers [(.c (.str [115, 101, 113])), (ld (ia 1 (ld (fa 4 (fa 6 (x 1)))) (x 10)))])))])) (.reg [] 1154 [(10, (add (x 10) (k 1)))])))))) (.seq (.reg [] 4 [(2, (x 7))]) .ret)))))))))⟩
def b.tell_Line : BF := ⟨1, true, .scal, [.t 2], (.seq (.reg [] 1 []) (.seq (.reg [] 4 [(2, (add (.call n.strings_Join [(x 0), (.c (.str [32]))]) (.c (.str [10]))))]) .ret))⟩
def b.ref26_Line : BF := ⟨1, true, .scal, [.t 2], (.seq (.reg [] 1 []) (.seq (.reg [] 9 [(3, (.c (.str [])))]) (.seq (.seq (.reg [] 25 [(4, (k 0))]) (.block 0 (.loop (.seq (.ife [] 25 [] (lt (x 4) (len (x 0))) .skip (.exit 0)) (.seq (.block 1 (.seq (.ife [] 25 [] (gt (x 4) (k 0)) (.reg [] 25 [(3, (add (x 3) (.c (.str [32]))))]) .skip) (.reg [] 25 [(3, (add (x 3) (ld (ia 1 (x 0) (x 4)))))]))) (.reg [] 25 [(4, (add (x 4) (k 1)))])))))) (.seq (.reg [] 4 [(2, (add (x 3) (.c (.str [10]))))]) .ret))))⟩
def b.tell_Numbers : BF := ⟨2, true, .scal, [.t 4], (.seq (.reg [] 3 []) (.seq (.reg [.eff [] 3 (some 11) (.l (.make 1 true (.str []) 16 (.t 0) (.t 1))) [(k 0), (add (len (x 1)) (k 1))]] 35 [(5, (x 11))]) (.seq (.reg [.eff [(12, (x 5))] 4098 (some 14) (one 1 true [(.str [])]) [(x 0)], .eff [] 2 (some 15) (apd 1 true 16) [(x 12), (x 14)]] 34 [(5, (x 15))]) (.seq (.seq (.reg [] 458784 [(18, (k 0)), (17, (len (x 1))), (16, (x 1))]) (.block 0 (.loop (.seq (.ife [] 458784 [] (lt (x 18) (x 17)) .skip (.exit 0)) (.seq (.block 1 (.seq (.reg [] 458912 [(7, (ld (ia 1 (x 16) (x 18))))]) (.reg [.eff [(22, (x 5))] 4653056 (some 25) (one 1 true [(.str [])]) [(.call n.num_Put [(x 7)])], .eff [] 458752 (some 26) (apd 1 true 16) [(x 22), (x 25)]] 458784 [(5, (x 26))]))) (.reg [] 458784 [(18, (add (x 18) (k 1)))])))))) (.seq (.reg [] 16 [(4, (.call n.tell_Line [(x 5)]))]) .ret)))))⟩
def b.ref26_Numbers : BF := ⟨2, true, .scal, [.t 4], (.seq (.reg [] 3 []) (.seq (.reg [] 34 [(5, (x 0))]) (.seq (.seq (.reg [] 98 [(6, (k 0))]) (.block 0 (.loop (.seq (.ife [] 98 [] (lt (x 6) (len (x 1))) .skip (.exit 0)) (.seq (.block 1 (.reg [] 98 [(5, (add (add (x 5) (.c (.str [32]))) (.call n.ref05_Put [(ld (ia 1 (x 1) (x 6)))])))])) (.reg [] 98 [(6, (add (x 6) (k 1)))])))))) (.seq (.reg [] 16 [(4, (add (x 5) (.c (.str [10]))))]) .ret))))⟩
def b.ref06_Small : BF := ⟨2, true, .scal, [.t 4], (.seq (.reg [] 3 []) (.seq (.ife [] 1 [] (.or (gt (len (x 0)) (x 1)) (gt (.call n.ref06_Count [(x 0)]) (x 1))) (.seq (.reg [] 16 [(4, (kb false))]) .ret) .skip) (.seq (.reg [] 32 [(5, (.call n.ref06_Flat [(x 0)]))]) (.seq (.seq (.reg [] 96 [(6, (k 0))]) (.block 0 (.loop (.seq (.ife [] 96 [] (lt (x 6) (len (x 5))) .skip (.exit 0)) (.seq (.block 1 (.ife [] 96 [] (gt (sln (ld (fa 1 (ia 3 (x 5) (x 6))))) (k 20)) (.seq (.reg [] 16 [(4, (kb false))]) .ret) .skip)) (.reg [] 96 [(6, (add (x 6) (k 1)))])))))) (.seq (.reg [] 16 [(4, (kb true))]) .ret)))))⟩
def b.law08_awake : BF := ⟨0, true, .scal, [.t 0], (.seq (.reg [] 0 []) (.seq (.reg [.eff [] 0 (some 8) (.l (.mks 3 true [(.bool false), (.str []), (.int .i64 0)] 2 [(0, (.t 0)), (1, (.t 1))])) [(.p (.build [(.bool false), (.str []), (.int .i64 0)] [(0, 1, (.t 0)), (1, 1, (.t 1)), (2, 1, (.t 2))]) [(kb true), (.c (.str [120])), (k 1)]), (.p (.build [(.bool false), (.str []), (.int .i64 0)] [(1, 1, (.t 0))]) [(.c (.str [121]))])], .eff [] 0 (some 9) (one 1 false [.nil]) [(x 8)]] 6 [(2, (xt (.call n.show_Text [(x 9)]) 1)), (1, (xt (.call n.show_Text [(x 9)]) 0))]) (.seq (.reg [.eff [] 6 (some 15) (one 3 true [(.bool false), (.str []), (.int .i64 0)]) [(.p (.build [(.bool false), (.str []), (.int .i64 0)] []) [])], .eff [] 6 (some 16) (one 1 false [.nil]) [(x 15)], ck (xt (.call n.show_Text [(x 16)]) 0)] 22 [(4, (xt (.call n.show_Text [(x 16)]) 1))]) (.seq (.reg [] 1 [(0, (.and (.and (eq (x 2) (k 0)) (eq (x 1) (.c (.str [119, 58, 120, 61, 49, 32, 114, 58, 121, 61, 48, 10])))) (eq (x 4) (k 1))))]) .ret))))⟩
def b.show_Text : BF := ⟨1, true, .scal, [.t 2, .t 3], (.seq (.reg [] 1 []) (.seq (.ife [] 1 [] (nt (.call n.hist_Right [(x 0)])) (.seq (.reg [] 12 [(3, (k 1)), (2, (.c (.str [])))]) .ret) .skip) (.seq (.reg [.eff [] 1 (some 4) (.l (.allocT 68)) []] 17 []) (.seq (.seq (.reg [] 28688 [(14, (k 0)), (13, (len (x 0))), (12, (x 0))]) (.block 0 (.loop (.seq (.ife [] 28688 [] (lt (x 14) (x 13)) .skip (.exit 0)) (.seq (.block 1 (.seq (.reg [] 28752 [(6, (ld (ia 1 (x 12) (x 14))))]) (.seq (.seq (.reg [] 1863696 [(20, (k 0)), (19, (len (x 6))), (18, (x 6))]) (.block 2 (.loop (.seq (.ife [] 1863696 [] (lt (x 20) (x 19)) .skip (.exit 2)) (.seq (.block 3 (.seq (.reg [.eff [(24, (ldn 3 (ia 3 (x 18) (x 20)))), (22, (x 20))] 22835216 (some 8) (alo 3 true (.agg [(.bool false), (.str []), (.int .i64 0)])) [], .eff [(7, (x 22))] 1864080 none (sto 3) [(x 8), (x 24)]] 1864080 []) (.seq (.ife [] 1863952 [] (gt (x 7) (k 0)) (.reg [.eff [] 1863952 (some 27) (.call n.strings_Builder__WriteByte) [(x 4), (kc 32)]] 1863952 []) .skip) (.reg [.eff [] 1863696 (some 30) (.call n.strings_Builder__WriteString) [(x 4), (.call n.show_Op [(ldn 3 (x 8))])]] 1863696 [])))) (.reg [] 1863696 [(20, (add (x 20) (k 1)))])))))) (.reg [.eff [] 28688 (some 32) (.call n.strings_Builder__WriteByte) [(x 4), (kc 10)]] 28688 [])))) (.reg [] 28688 [(14, (add (x 14) (k 1)))])))))) (.seq (.reg [.eff [] 0 (some 34) (.call n.strings_Builder__String) [(x 4)]] 12 [(3, (k 0)), (2, (x 34))]) .ret)))))⟩
def b.ref08_Text : BF := ⟨1, true, .scal, [.t 2, .t 3], (.seq (.reg [] 1 []) (.seq (.ife [] 1 [] (nt (.call n.ref06_Right [(x 0)])) (.seq (.reg [] 12 [(3, (k 1)), (2, (.c (.str [])))]) .ret) .skip) (.seq (.reg [] 17 [(4, (.c (.str [])))]) (.seq (.seq (.reg [] 49 [(5, (k 0))]) (.block 0 (.loop (.seq (.ife [] 49 [] (lt (x 5) (len (x 0))) .skip (.exit 0)) (.seq (.block 1 (.seq (.seq (.reg [] 113 [(6, (k 0))]) (.block 2 (.loop (.seq (.ife [] 113 [] (lt (x 6) (len (ld (ia 1 (x 0) (x 5))))) .skip (.exit 2)) (.seq (.block 3 (.seq (.ife [] 113 [] (gt (x 6) (k 0)) (.reg [] 113 [(4, (add (x 4) (.c (.str [32]))))]) .skip) (.reg [] 113 [(4, (add (x 4) (.call n.ref08_Op [(ldn 3 (ia 3 (ld (ia 1 (x 0) (x 5))) (x 6)))])))]))) (.reg [] 113 [(6, (add (x 6) (k 1)))])))))) (.reg [] 49 [(4, (add (x 4) (.c (.str [10]))))]))) (.reg [] 49 [(5, (add (x 5) (k 1)))])))))) (.seq (.reg [] 12 [(3, (k 0)), (2, (x 4))]) .ret)))))⟩
def b.show_Op : BF := ⟨1, true, .scal, [.t 2], (.seq (.reg [.eff [] 0 (some 1) (box 3 true) [(x 0)]] 2 []) (.seq (.reg [] 10 [(3, (.c (.str [114])))]) (.seq (.ife [] 10 [] (ld (fa 0 (x 1))) (.reg [] 10 [(3, (.c (.str [119])))]) .skip) (.seq (.reg [] 4 [(2, (add (add (add (add (x 3) (.c (.str [58]))) (ld (fa 1 (x 1)))) (.c (.str [61]))) (.call n.num_Put [(ld (fa 2 (x 1)))])))]) .ret))))⟩
def b.ref08_Op : BF := ⟨1, true, .scal, [.t 2], (.seq (.reg [.eff [] 0 (some 1) (box 3 true) [(x 0)]] 2 []) (.seq (.reg [] 10 [(3, (.c (.str [114, 58])))]) (.seq (.ife [] 10 [] (ld (fa 0 (x 1))) (.reg [] 10 [(3, (.c (.str [119, 58])))]) .skip) (.seq (.reg [] 4 [(2, (add (add (add (x 3) (ld (fa 1 (x 1)))) (.c (.str [61]))) (.call n.ref05_Put [(ld (fa 2 (x 1)))])))]) .ret))))⟩
def b.ref06_Right : BF := ⟨1, true, .scal, [.t 2], (.seq (.reg [] 1 []) (.seq (.reg [] 8 [(3, (.call n.ref06_Flat [(x 0)]))]) (.seq (.seq (.reg [] 24 [(4, (k 0))]) (.block 0 (.loop (.seq (.ife [] 24 [] (lt (x 4) (len (x 3))) .skip (.exit 0)) (.seq (.block 1 (.ife [] 24 [] (nt (.call n.ref06_Name [(ld (fa 1 (ia 3 (x 3) (x 4))))])) (.seq (.reg [] 4 [(2, (kb false))]) .ret) .skip)) (.reg [] 24 [(4, (add (x 4) (k 1)))])))))) (.seq (.reg [] 4 [(2, (le (len (x 3)) (k 4096)))]) .ret))))⟩
def b.ref07_Text : BF := ⟨1, true, .froz, [.t 2, .t 3, .t 4], (.seq (.reg [] 1 []) (.seq (.reg [] 33 [(5, (.c .nil))]) (.seq (.reg [] 225 [(7, (k 0)), (6, (k 0))]) (.seq (.block 0 (.loop (.seq (.ife [] 225 [] (lt (x 6) (sln (x 0))) .skip (.exit 0)) (.block 1 (.seq (.reg [] 481 [(8, (.c .nil))]) (.seq (.block 2 (.loop (.seq (.ife [] 481 [] (ne (ix (x 0) (x 6)) (kc 10)) .skip (.exit 2)) (.block 3 (.seq (.ife [] 481 [] (gt (len (x 8)) (k 0)) (.seq (.ife [] 481 [] (ne (ix (x 0) (x 6)) (kc 32)) (.seq (.reg [] 28 [(4, (k 2)), (3, (x 6)), (2, (.c .nil))]) .ret) .skip) (.reg [] 481 [(6, (add (x 6) (k 1)))])) .skip) (.seq (.ife [] 481 [] (.and (.and (eq (x 7) (k 4096)) (lt (x 6) (sln (x 0)))) (.or (eq (ix (x 0) (x 6)) (kc 119)) (eq (ix (x 0) (x 6)) (kc 114)))) (.seq (.reg [] 28 [(4, (k 3)), (3, (x 6)), (2, (.c .nil))]) .ret) .skip) (.seq (.reg [.eff [(57, (xt (.call n.ref07_one [(x 0), (x 6)]) 2)), (56, (xt (.call n.ref07_one [(x 0), (x 6)]) 1)), (55, (xt (.call n.ref07_one [(x 0), (x 6)]) 0))] 252201579132748193 (some 9) (alo 3 true (.agg [(.bool false), (.str []), (.int .i64 0)])) [], .eff [] 216172782113784737 none (sto 3) [(x 9), (x 55)]] 4001 [(11, (x 57)), (10, (x 56))]) (.seq (.ife [] 4001 [] (ne (x 11) (k 0)) (.seq (.reg [] 28 [(4, (x 11)), (3, (x 10)), (2, (.c .nil))]) .ret) .skip) (.seq (.reg [.eff [(62, (x 8))] 4611686018427389089 (some 64) (one 3 true [(.bool false), (.str []), (.int .i64 0)]) [(ldn 3 (x 9))], .eff [] 1185 (some 65) (apd 3 true 32) [(x 62), (x 64)]] 481 [(7, (add (x 7) (k 1))), (6, (x 10)), (8, (x 65))]) (.ife [] 481 [] (ge (x 6) (sln (x 0))) (.seq (.reg [] 28 [(4, (k 2)), (3, (x 6)), (2, (.c .nil))]) .ret) .skip)))))))))) (.reg [.eff [(74, (x 5))] 18889465931478580854977 (some 76) (one 1 false [.nil]) [(x 8)], .eff [] 193 (some 77) (apd 1 false 24) [(x 74), (x 76)]] 225 [(6, (add (x 6) (k 1))), (5, (x 77))]))))))) (.seq (.reg [] 28 [(4, (k 0)), (3, (k 0)), (2, (x 5))]) .ret)))))⟩
def b.ref06_Same : BF := ⟨2, true, .scal, [.t 4], (.seq (.reg [] 3 []) (.seq (.ife [] 3 [] (ne (len (x 0)) (len (x 1))) (.seq (.reg [] 16 [(4, (kb false))]) .ret) .skip) (.seq (.seq (.reg [] 35 [(5, (k 0))]) (.block 0 (.loop (.seq (.ife [] 35 [] (lt (x 5) (len (x 0))) .skip (.exit 0)) (.seq (.block 1 (.seq (.ife [] 35 [] (ne (len (ld (ia 1 (x 0) (x 5)))) (len (ld (ia 1 (x 1) (x 5))))) (.seq (.reg [] 16 [(4, (kb false))]) .ret) .skip) (.seq (.reg [] 99 [(6, (k 0))]) (.block 2 (.loop (.seq (.ife [] 99 [] (lt (x 6) (len (ld (ia 1 (x 0) (x 5))))) .skip (.exit 2)) (.seq (.block 3 (.ife [] 99 [] (.p (.eqs true [.bool, .str, (.int .i64)] (.t 0) (.t 1)) [(ldn 3 (ia 3 (ld (ia 1 (x 0) (x 5))) (x 6))), (ldn 3 (ia 3 (ld (ia 1 (x 1) (x 5))) (x 6)))]) (.seq (.reg [] 16 [(4, (kb false))]) .ret) .skip)) (.reg [] 99 [(6, (add (x 6) (k 1)))])))))))) (.reg [] 35 [(5, (add (x 5) (k 1)))])))))) (.seq (.reg [] 16 [(4, (kb true))]) .ret))))⟩
def b.ref24_Small : BF := ⟨2, true, .scal, [.t 4], (.seq (.reg [.eff [] 2 (some 2) (box 5 false) [(x 0)]] 6 []) (.seq (.ife [] 6 [] (.or (.or (nt (.call n.ref03_Small [(ldn 2 (fa 1 (x 2))), (x 1)])) (gt (len (ld (fa 3 (x 2)))) (bn .mul (k 2) (x 1)))) (gt (len (ld (fa 4 (x 2)))) (bn .mul (k 2) (x 1)))) (.seq (.reg [] 16 [(4, (kb false))]) .ret) .skip) (.seq (.seq (.reg [] 38 [(5, (k 0))]) (.block 0 (.loop (.seq (.ife [] 38 [] (lt (x 5) (len (ld (fa 4 (x 2))))) .skip (.exit 0)) (.seq (.block 1 (.ife [] 38 [] (gt (len (ld (ia 1 (ld (fa 4 (x 2))) (x 5)))) (bn .mul (k 2) (x 1))) (.seq (.reg [] 16 [(4, (kb false))]) .ret) .skip)) (.reg [] 38 [(5, (add (x 5) (k 1)))])))))) (.seq (.reg [] 16 [(4, (kb true))]) .ret))))⟩
def b.ref03_Right : BF := ⟨1, true, .scal, [.t 2], (.seq (.reg [.eff [] 0 (some 1) (box 2 false) [(x 0)]] 2 []) (.seq (.ife [] 2 [] (.or (.or (lt (ld (fa 0 (x 1))) (k 0)) (gt (ld (fa 0 (x 1))) (k 4096))) (ne (len (ld (fa 1 (x 1)))) (ld (fa 0 (x 1))))) (.seq (.reg [] 4 [(2, (kb false))]) .ret) .skip) (.seq (.seq (.reg [] 10 [(3, (k 0))]) (.block 0 (.loop (.seq (.ife [] 10 [] (lt (x 3) (ld (fa 0 (x 1)))) .skip (.exit 0)) (.seq (.block 1 (.seq (.ife [] 10 [] (ne (len (ld (ia 1 (ld (fa 1 (x 1))) (x 3)))) (.call n.ref02_Words [(ld (fa 0 (x 1)))])) (.seq (.reg [] 4 [(2, (kb false))]) .ret) .skip) (.seq (.reg [] 26 [(4, (ld (fa 0 (x 1))))]) (.block 2 (.loop (.seq (.ife [] 26 [] (lt (x 4) (bn .mul (k 64) (len (ld (ia 1 (ld (fa 1 (x 1))) (x 3)))))) .skip (.exit 2)) (.seq (.block 3 (.ife [] 26 [] (.call n.ref02_Has [(ld (ia 1 (ld (fa 1 (x 1))) (x 3))), (x 4)]) (.seq (.reg [] 4 [(2, (kb false))]) .ret) .skip)) (.reg [] 26 [(4, (add (x 4) (k 1)))])))))))) (.reg [] 10 [(3, (add (x 3) (k 1)))])))))) (.seq (.reg [] 4 [(2, (kb true))]) .ret))))⟩
def b.tell_teller__say : BF := ⟨3, false, .froz, [], (.raw 0 [⟨(some 6), (.p (.mov (.t 0))), none, 1⟩, ⟨(some 7), (.p (.nilck (.t 6))), none, 1⟩, ⟨(some 8), (.p (.fad 0 (.t 7))), none, 1⟩, ⟨(some 9), (.p (.mov (.t 1))), none, 0⟩, ⟨(some 10), (.p (.mov (.t 2))), none, 0⟩, ⟨(some 11), (.e (.call n.tell_Numbers [(.t 9), (.t 10)])), none, 0⟩, ⟨(some 12), (.e (.call n.strings_Builder__WriteString [(.t 8), (.t 11)])), none, 0⟩])⟩
def b.tell_teller__cert : BF := ⟨2, false, .froz, [], (.seq (.reg [.eff [] 1 (some 3) (box 5 false) [(x 1)]] 9 []) (.seq (.reg [.eff [(8, (x 0))] 265 (some 12) (one 1 true [(.int .i64 0)]) [(ld (fa 0 (fa 1 (x 3))))], .eff [] 9 (some 13) (.call n.tell_teller__say) [(x 8), (.c (.str [111, 114, 100, 101, 114])), (x 12)]] 9 []) (.seq (.seq (.reg [] 458761 [(18, (k 0)), (17, (len (.call n.mat_Pairs [(ldn 2 (fa 1 (x 3)))]))), (16, (.call n.mat_Pairs [(ldn 2 (fa 1 (x 3)))]))]) (.block 0 (.loop (.seq (.ife [] 458761 [] (lt (x 18) (x 17)) .skip (.exit 0)) (.seq (.block 1 (.seq (.reg [.eff [(21, (ldn 2 (ia 2 (x 16) (x 18))))] 2555913 (some 5) (alo 2 true (.agg [(.int .i64 0), (.int .i64 0)])) [], .eff [] 458793 none (sto 2) [(x 5), (x 21)]] 458793 []) (.reg [.eff [(22, (x 0))] 4653065 (some 27) (.l (.mks 1 true [(.int .i64 0)] 2 [(0, (.t 0)), (1, (.t 1))])) [(ld (.p (.iar 2 1 (.t 0) (.t 1)) [(x 5), (k 0)])), (ld (.p (.iar 2 1 (.t 0) (.t 1)) [(x 5), (k 1)]))], .eff [] 458761 (some 28) (.call n.tell_teller__say) [(x 22), (.c (.str [112, 97, 105, 114])), (x 27)]] 458761 []))) (.reg [] 458761 [(18, (add (x 18) (k 1)))])))))) (.seq (.reg [.eff [] 9 (some 33) (.call n.tell_teller__say) [(x 0), (.c (.str [97, 114, 98])), (ld (fa 3 (x 3)))]] 9 []) (.seq (.reg [] 240518168577 [(37, (k 0)), (36, (len (ld (fa 4 (x 3))))), (35, (ld (fa 4 (x 3))))]) (.block 2 (.loop (.seq (.ife [] 240518168577 [] (lt (x 37) (x 36)) .skip (.exit 2)) (.seq (.block 3 (.seq (.reg [] 240518168705 [(7, (ld (ia 1 (x 35) (x 37))))]) (.reg [.eff [] 240518168577 (some 43) (.call n.tell_teller__say) [(x 0), (.c (.str [115, 101, 113])), (x 7)]] 240518168577 []))) (.reg [] 240518168577 [(37, (add (x 37) (k 1)))]))))))))))⟩
def b.tell_teller__witness : BF := ⟨2, false, .froz, [], (.seq (.reg [.eff [] 1 (some 3) (box 8 false) [(x 1)]] 9 []) (.seq (.reg [.eff [(6, (x 0))] 73 (some 21) (.l (.mks 1 true [(.int .i64 0)] 7 [(0, (.t 0)), (1, (.t 1)), (2, (.t 2)), (3, (.t 3)), (4, (.t 4)), (5, (.t 5)), (6, (.t 6))])) [(ld (fa 0 (x 3))), (ld (fa 1 (x 3))), (ld (fa 2 (x 3))), (ld (fa 3 (x 3))), (ld (fa 4 (x 3))), (ld (fa 6 (x 3))), (ld (fa 7 (x 3)))], .eff [] 9 (some 22) (.call n.tell_teller__say) [(x 6), (.c (.str [112, 97, 116, 116, 101, 114, 110])), (x 21)]] 9 []) (.seq (.reg [] 117440513 [(26, (k 0)), (25, (len (ld (fa 5 (x 3))))), (24, (ld (fa 5 (x 3))))]) (.block 0 (.loop (.seq (.ife [] 117440513 [] (lt (x 26) (x 25)) .skip (.exit 0)) (.seq (.block 1 (.seq (.reg [.eff [(29, (ldn 5 (ia 5 (x 24) (x 26))))] 654311425 (some 5) (alo 5 true (.agg [(.int .i64 0), (.int .i64 0), (.int .i64 0), (.int .i64 0), (.int .i64 0)])) [], .eff [] 117440545 none (sto 5) [(x 5), (x 29)]] 117440545 []) (.reg [.eff [(30, (x 0))] 1191182337 (some 41) (.l (.mks 1 true [(.int .i64 0)] 5 [(0, (.t 0)), (1, (.t 1)), (2, (.t 2)), (3, (.t 3)), (4, (.t 4))])) [(ld (fa 0 (x 5))), (ld (fa 1 (x 5))), (ld (fa 2 (x 5))), (ld (fa 3 (x 5))), (ld (fa 4 (x 5)))], .eff [] 117440513 (some 42) (.call n.tell_teller__say) [(x 30), (.c (.str [115, 116, 101, 112])), (x 41)]] 117440513 []))) (.reg [] 117440513 [(26, (add (x 26) (k 1)))]))))))))⟩
def b.ref03_Pairs : BF := ⟨1, true, .froz, [.t 2], (.seq (.reg [.eff [] 0 (some 1) (box 2 false) [(x 0)]] 2 []) (.seq (.reg [] 10 [(3, (.c .nil))]) (.seq (.seq (.reg [] 26 [(4, (k 0))]) (.block 0 (.loop (.seq (.ife [] 26 [] (lt (x 4) (ld (fa 0 (x 1)))) .skip (.exit 0)) (.seq (.block 1 (.seq (.reg [] 58 [(5, (.call n.ref02_List [(ld (ia 1 (ld (fa 1 (x 1))) (x 4)))]))]) (.seq (.reg [] 122 [(6, (k 0))]) (.block 2 (.loop (.seq (.ife [] 122 [] (lt (x 6) (len (x 5))) .skip (.exit 2)) (.seq (.block 3 (.reg [.eff [(25, (x 3))] 33554546 (some 32) (one 2 true [(.int .i64 0), (.int .i64 0)]) [(.p (.build [(.int .i64 0), (.int .i64 0)] [(0, 1, (.t 0)), (1, 1, (.t 1))]) [(x 4), (ld (ia 1 (x 5) (x 6)))])], .eff [] 114 (some 33) (apd 2 true 16) [(x 25), (x 32)]] 122 [(3, (x 33))])) (.reg [] 122 [(6, (add (x 6) (k 1)))])))))))) (.reg [] 26 [(4, (add (x 4) (k 1)))])))))) (.seq (.reg [] 4 [(2, (x 3))]) .ret))))⟩
def b.num_Put : BF := ⟨1, true, .scal, [.t 2], (.seq (.reg [] 1 []) (.seq (.reg [] 4 [(2, (.call n.strconv_Itoa [(x 0)]))]) .ret))⟩
def b.ref05_Put : BF := ⟨1, true, .scal, [.t 2], (.seq (.reg [] 1 []) (.seq (.reg [] 9 [(3, (.c (.str [])))]) (.seq (.seq (.reg [] 25 [(4, (x 0))]) (.block 0 (.loop (.seq (.block 1 (.seq (.reg [] 57 [(5, (bn .rem (x 4) (k 10)))]) (.seq (.ife [] 57 [] (lt (x 5) (k 0)) (.reg [] 57 [(5, (.p (.un .neg (.t 0)) [(x 5)]))]) .skip) (.seq (.reg [.eff [] 25 (some 18) (one 1 true [(.int .u8 0)]) [(.p (.conv .u8 (.t 0)) [(add (k 48) (x 5))])]] 25 [(3, (add (.r (.b2s (.t 0)) [(x 18)]) (x 3)))]) (.ife [] 25 [] (eq (bn .quo (x 4) (k 10)) (k 0)) (.exit 0) .skip))))) (.reg [] 25 [(4, (bn .quo (x 4) (k 10)))]))))) (.seq (.ife [] 8 [] (lt (x 0) (k 0)) (.seq (.reg [] 4 [(2, (add (.c (.str [45])) (x 3)))]) .ret) .skip) (.seq (.reg [] 4 [(2, (x 3))]) .ret)))))⟩
def b.ref06_Count : BF := ⟨1, true, .scal, [.t 2], (.seq (.reg [] 1 []) (.seq (.reg [] 4 [(2, (len (.call n.ref06_Flat [(x 0)])))]) .ret))⟩
def b.ref06_Flat : BF := ⟨1, true, .frozF, [.t 2], (.seq (.reg [] 1 []) (.seq (.reg [] 9 [(3, (.c .nil))]) (.seq (.seq (.reg [] 25 [(4, (k 0))]) (.block 0 (.loop (.seq (.ife [] 25 [] (lt (x 4) (len (x 0))) .skip (.exit 0)) (.seq (.block 1 (.reg [.eff [] 17 (some 16) (apd 3 true 32) [(x 3), (ld (ia 1 (x 0) (x 4)))]] 25 [(3, (x 16))])) (.reg [] 25 [(4, (add (x 4) (k 1)))])))))) (.seq (.reg [] 4 [(2, (x 3))]) .ret))))⟩
def b.hist_Right : BF := ⟨1, true, .scal, [.t 2], (.seq (.reg [] 1 []) (.seq (.reg [] 8 [(3, (.call n.hist_Flat [(x 0)]))]) (.seq (.reg [] 4 [(2, (.and (le (len (x 3)) (k 4096)) (nt (.call n.slices_ContainsFunc___api_Op_api_Op [(x 3), (.c (.fn n.hist_Right_1 [] []))]))))]) .ret)))⟩
def b.ref06_Name : BF := ⟨1, true, .scal, [.t 2], (.seq (.reg [] 1 []) (.seq (.seq (.reg [] 9 [(3, (k 0))]) (.block 0 (.loop (.seq (.ife [] 9 [] (lt (x 3) (sln (x 0))) .skip (.exit 0)) (.seq (.block 1 (.ife [] 9 [] (.or (lt (ix (x 0) (x 3)) (kc 97)) (gt (ix (x 0) (x 3)) (kc 122))) (.seq (.reg [] 4 [(2, (kb false))]) .ret) .skip)) (.reg [] 9 [(3, (add (x 3) (k 1)))])))))) (.seq (.reg [] 4 [(2, (.and (ge (sln (x 0)) (k 1)) (le (sln (x 0)) (k 8))))]) .ret)))⟩
def b.ref07_one : BF := ⟨2, true, .scal, [.cell 4 ⟨true, 3⟩, .t 5, .t 6], (.seq (.reg [.eff [] 3 (some 4) (alo 3 true (.agg [(.bool false), (.str []), (.int .i64 0)])) []] 19 []) (.seq (.ife [] 19 [] (.or (ge (x 1) (sln (x 0))) (.and (ne (ix (x 0) (x 1)) (kc 119)) (ne (ix (x 0) (x 1)) (kc 114)))) (.seq (.reg [.eff [(29, (x 1))] 536870928 none (sto 3) [(x 4), (.p (.build [(.bool false), (.str []), (.int .i64 0)] []) [])]] 112 [(6, (k 2)), (5, (x 29))]) .ret) .skip) (.seq (.reg [.eff [(34, (.p (.build [(.bool false), (.str []), (.int .i64 0)] [(0, 1, (.t 0))]) [(eq (ix (x 0) (x 1)) (kc 119))]))] 17179869203 (some 7) (alo 3 true (.agg [(.bool false), (.str []), (.int .i64 0)])) [], .eff [] 147 none (sto 3) [(x 7), (x 34)]] 147 []) (.seq (.reg [] 147 [(1, (add (x 1) (k 1)))]) (.seq (.ife [] 147 [] (.or (ge (x 1) (sln (x 0))) (ne (ix (x 0) (x 1)) (kc 58))) (.seq (.reg [.eff [(48, (x 1))] 281474976710672 none (sto 3) [(x 4), (.p (.build [(.bool false), (.str []), (.int .i64 0)] []) [])]] 112 [(6, (k 2)), (5, (x 48))]) .ret) .skip) (.seq (.reg [] 147 [(1, (add (x 1) (k 1)))]) (.seq (.reg [] 403 [(8, (k 0))]) (.seq (.block 0 (.loop (.seq (.ife [] 403 [] (.and (.and (.and (lt (x 8) (k 8)) (lt (add (x 1) (x 8)) (sln (x 0)))) (ge (ix (x 0) (add (x 1) (x 8))) (kc 97))) (le (ix (x 0) (add (x 1) (x 8))) (kc 122))) .skip (.exit 0)) (.block 1 (.reg [] 403 [(8, (add (x 8) (k 1)))]))))) (.seq (.reg [.eff [] 403 none (sto 1) [(fa 1 (x 7)), (.p (.sls (.t 0) (some (.t 1)) (some (.t 2))) [(x 0), (x 1), (add (x 1) (x 8))])]] 403 []) (.seq (.reg [] 403 [(1, (add (x 1) (x 8)))]) (.seq (.ife [] 147 [] (.or (.or (eq (x 8) (k 0)) (ge (x 1) (sln (x 0)))) (ne (ix (x 0) (x 1)) (kc 61))) (.seq (.reg [.eff [(104, (x 1))] 20282409603651670423947251286032 none (sto 3) [(x 4), (.p (.build [(.bool false), (.str []), (.int .i64 0)] []) [])]] 112 [(6, (k 2)), (5, (x 104))]) .ret) .skip) (.seq (.reg [] 147 [(1, (add (x 1) (k 1)))]) (.seq (.reg [] 659 [(9, (.call n.ref05_Span [(x 0), (x 1)]))]) (.seq (.reg [] 3730 [(11, (xt (.call n.ref05_Get [(.p (.sls (.t 0) (some (.t 1)) (some (.t 2))) [(x 0), (x 1), (add (x 1) (x 9))])]) 1)), (10, (xt (.call n.ref05_Get [(.p (.sls (.t 0) (some (.t 1)) (some (.t 2))) [(x 0), (x 1), (add (x 1) (x 9))])]) 0))]) (.seq (.ife [] 3730 [] (ne (x 11) (k 0)) (.seq (.reg [.eff [(124, (x 11)), (123, (x 1))] 31901471898837980949691369446728269840 none (sto 3) [(x 4), (.p (.build [(.bool false), (.str []), (.int .i64 0)] []) [])]] 112 [(6, (x 124)), (5, (x 123))]) .ret) .skip) (.seq (.reg [.eff [] 658 none (sto 1) [(fa 2 (x 7)), (x 10)]] 658 []) (.seq (.reg [.eff [(130, (add (x 1) (x 9)))] 1361129467683753853853498429727072845840 none (sto 3) [(x 4), (ldn 3 (x 7))]] 112 [(6, (k 0)), (5, (x 130))]) .ret)))))))))))))))))⟩
def b.ref03_Small : BF := ⟨2, true, .scal, [.t 4], (.seq (.reg [.eff [] 2 (some 2) (box 2 false) [(x 0)]] 6 []) (.seq (.ife [] 4 [] (gt (len (ld (fa 1 (x 2)))) (x 1)) (.seq (.reg [] 16 [(4, (kb false))]) .ret) .skip) (.seq (.seq (.reg [] 36 [(5, (k 0))]) (.block 0 (.loop (.seq (.ife [] 36 [] (lt (x 5) (len (ld (fa 1 (x 2))))) .skip (.exit 0)) (.seq (.block 1 (.ife [] 36 [] (gt (len (ld (ia 1 (ld (fa 1 (x 2))) (x 5)))) (k 4)) (.seq (.reg [] 16 [(4, (kb false))]) .ret) .skip)) (.reg [] 36 [(5, (add (x 5) (k 1)))])))))) (.seq (.reg [] 16 [(4, (kb true))]) .ret))))⟩
def b.ref02_Words : BF := ⟨1, true, .froz, [.t 2], (.seq (.reg [] 1 []) (.seq (.ife [] 1 [] (lt (x 0) (k 0)) (.seq (.reg [] 4 [(2, (k 0))]) .ret) .skip) (.seq (.reg [] 4 [(2, (bn .quo (add (x 0) (k 63)) (k 64)))]) .ret)))⟩
def b.ref02_Has : BF := ⟨2, true, .scal, [.t 4], (.seq (.reg [] 3 []) (.seq (.reg [] 16 [(4, (.and (.and (ge (x 1) (k 0)) (lt (x 1) (bn .mul (k 64) (len (x 0))))) (.call n.ref01_Has [(ld (ia 1 (x 0) (bn .quo (x 1) (k 64)))), (bn .rem (x 1) (k 64))])))]) .ret))⟩
def b.mat_Pairs : BF := ⟨1, true, .froz, [.t 2], (.seq (.reg [.eff [] 0 (some 1) (box 2 false) [(x 0)]] 2 []) (.seq (.reg [] 10 [(3, (.c .nil))]) (.seq (.seq (.reg [] 3592 [(11, (k 0)), (10, (len (ld (fa 1 (x 1))))), (9, (ld (fa 1 (x 1))))]) (.block 0 (.loop (.seq (.ife [] 3592 [] (lt (x 11) (x 10)) .skip (.exit 0)) (.seq (.block 1 (.seq (.reg [] 3640 [(5, (ld (ia 1 (x 9) (x 11)))), (4, (x 11))]) (.seq (.reg [] 921112 [(19, (k 0)), (18, (len (.call n.row_List [(x 5)]))), (17, (.call n.row_List [(x 5)]))]) (.block 2 (.loop (.seq (.ife [] 921112 [] (lt (x 19) (x 18)) .skip (.exit 2)) (.seq (.block 3 (.seq (.reg [] 921240 [(7, (ld (ia 1 (x 17) (x 19))))]) (.reg [.eff [(23, (x 3))] 9309712 (some 27) (one 2 true [(.int .i64 0), (.int .i64 0)]) [(.p (.build [(.int .i64 0), (.int .i64 0)] [(0, 1, (.t 0)), (1, 1, (.t 1))]) [(x 4), (x 7)])], .eff [] 921104 (some 28) (apd 2 true 16) [(x 23), (x 27)]] 921112 [(3, (x 28))]))) (.reg [] 921112 [(19, (add (x 19) (k 1)))])))))))) (.reg [] 3592 [(11, (add (x 11) (k 1)))])))))) (.seq (.reg [] 4 [(2, (x 3))]) .ret))))⟩
def b.ref02_List : BF := ⟨1, true, .froz, [.t 2], (.seq (.reg [] 1 []) (.seq (.reg [] 9 [(3, (.c .nil))]) (.seq (.seq (.reg [] 25 [(4, (k 0))]) (.block 0 (.loop (.seq (.ife [] 25 [] (lt (x 4) (bn .mul (k 64) (len (x 0)))) .skip (.exit 0)) (.seq (.block 1 (.ife [] 25 [] (.call n.ref02_Has [(x 0), (x 4)]) (.reg [.eff [(15, (x 3))] 32785 (some 17) (one 1 true [(.int .i64 0)]) [(x 4)], .eff [] 17 (some 18) (apd 1 true 8) [(x 15), (x 17)]] 25 [(3, (x 18))]) .skip)) (.reg [] 25 [(4, (add (x 4) (k 1)))])))))) (.seq (.reg [] 4 [(2, (x 3))]) .ret))))⟩
def b.strings_Builder__Grow : BF := ⟨2, true, .froz, [], (.seq (.reg [.eff [] 2 (some 5) (.call n.strings_Builder__copyCheck) [(x 0)]] 2 []) (.seq (.ife [] 0 [] (lt (x 1) (k 0)) .stuck .skip) (.seq .stuck (.ife [] 3 [] (x 21) (.reg [.eff [] 0 (some 24) (.call n.strings_Builder__grow) [(x 0), (x 1)]] 0 []) .skip))))⟩
def b.hist_Flat : BF := ⟨1, true, .froz, [.t 2], (.seq (.reg [] 1 []) (.seq (.reg [] 4 [(2, (.call n.slices_Concat___api_Op_api_Op [(x 0)]))]) .ret))⟩
def b.slices_ContainsFunc___api_Op_api_Op : BF := ⟨2, false, .froz, [.t 4], (.seq (.reg [] 3 []) (.seq (.reg [] 16 [(4, (ge (.call n.slices_IndexFunc___api_Op_api_Op [(x 0), (x 1)]) (k 0)))]) .ret))⟩
def b.hist_Right_1 : BF := ⟨1, true, .scal, [.t 2], (.seq (.reg [.eff [] 0 (some 1) (box 3 true) [(x 0)]] 2 []) (.seq (.reg [] 4 [(2, (nt (.call n.hist_named [(ld (fa 1 (x 1)))])))]) .ret))⟩
def b.hist_named : BF := ⟨1, true, .scal, [.t 2], (.seq (.reg [] 1 []) (.seq (.reg [] 4 [(2, (.and (.and (ne (x 0) (.c (.str []))) (le (sln (x 0)) (k 8))) (eq (.call n.strings_Trim [(x 0), (.c (.str [97, 98, 99, 100, 101, 102, 103, 104, 105, 106, 107, 108, 109, 110, 111, 112, 113, 114, 115, 116, 117, 118, 119, 120, 121, 122]))]) (.c (.str [])))))]) .ret))⟩
def b.strings_Builder__copyCheck : BF := ⟨1, true, .froz, [], (.ife [] 0 [] (.p (.isnil .pt false (.t 0)) [(ld (fa 0 (nk (x 0))))]) .stuck (.seq .stuck (.ife [] 0 [] (x 19) .stuck .skip)))⟩
def b.ref05_Span : BF := ⟨2, true, .scal, [.t 4], (.seq (.reg [] 3 []) (.seq (.ife [] 3 [] (.or (lt (x 1) (k 0)) (ge (x 1) (sln (x 0)))) (.seq (.reg [] 16 [(4, (k 0))]) .ret) .skip) (.seq (.reg [] 35 [(5, (k 0))]) (.seq (.ife [] 35 [] (eq (ix (x 0) (x 1)) (kc 45)) (.reg [] 35 [(5, (k 1))]) .skip) (.seq (.block 0 (.loop (.seq (.ife [] 35 [] (.and (.and (lt (add (x 1) (x 5)) (sln (x 0))) (ge (ix (x 0) (add (x 1) (x 5))) (kc 48))) (le (ix (x 0) (add (x 1) (x 5))) (kc 57))) .skip (.exit 0)) (.block 1 (.reg [] 35 [(5, (add (x 5) (k 1)))]))))) (.seq (.reg [] 16 [(4, (x 5))]) .ret))))))⟩
def b.ref05_Get : BF := ⟨1, true, .scal, [.t 2, .t 3], (.seq (.reg [] 1 []) (.seq (.reg [] 49 [(5, (x 0)), (4, (k 1))]) (.seq (.ife [] 49 [] (.and (gt (sln (x 0)) (k 0)) (eq (ix (x 0) (k 0)) (kc 45))) (.reg [] 49 [(5, (.p (.sls (.t 0) (some (.t 1)) none) [(x 0), (k 1)])), (4, (k (-1)))]) .skip) (.seq (.ife [] 48 [] (.or (.or (eq (sln (x 5)) (k 0)) (ne (.call n.ref05_Span [(x 0), (k 0)]) (sln (x 0)))) (.and (eq (ix (x 5) (k 0)) (kc 48)) (.or (gt (sln (x 5)) (k 1)) (lt (x 4) (k 0))))) (.seq (.reg [] 12 [(3, (k 2)), (2, (k 0))]) .ret) .skip) (.seq (.reg [] 112 [(6, (k 0))]) (.seq (.seq (.reg [] 240 [(7, (k 0))]) (.block 0 (.loop (.seq (.ife [] 240 [] (lt (x 7) (sln (x 5))) .skip (.exit 0)) (.seq (.block 1 (.seq (.reg [] 496 [(8, (bn .mul (x 4) (sub (.p (.conv .i64 (.t 0)) [(ix (x 5) (x 7))]) (k 48))))]) (.seq (.ife [] 496 [] (.or (.and (gt (x 4) (k 0)) (gt (x 6) (bn .quo (sub (k 9223372036854775807) (x 8)) (k 10)))) (.and (lt (x 4) (k 0)) (lt (x 6) (bn .quo (sub (k (-9223372036854775808)) (x 8)) (k 10))))) (.seq (.reg [] 12 [(3, (k 3)), (2, (k 0))]) .ret) .skip) (.reg [] 240 [(6, (add (bn .mul (k 10) (x 6)) (x 8)))])))) (.reg [] 240 [(7, (add (x 7) (k 1)))])))))) (.seq (.reg [] 12 [(3, (k 0)), (2, (x 6))]) .ret)))))))⟩
def b.ref01_Has : BF := ⟨2, true, .scal, [.t 4], (.seq (.reg [] 3 []) (.seq (.reg [] 33 [(5, (.call n.ref01_Bit [(x 1)]))]) (.seq (.reg [] 16 [(4, (.and (ne (x 5) (.c (.int .u64 0))) (eq (bn .rem (bn .quo (x 0) (x 5)) (.c (.int .u64 2))) (.c (.int .u64 1)))))]) .ret)))⟩
def b.row_List : BF := ⟨1, true, .froz, [.t 2], (.seq (.reg [] 1 []) (.seq (.reg [] 9 [(3, (.c .nil))]) (.seq (.seq (.reg [] 456 [(8, (k 0)), (7, (len (x 0))), (6, (x 0))]) (.block 0 (.loop (.seq (.ife [] 456 [] (lt (x 8) (x 7)) .skip (.exit 0)) (.seq (.block 1 (.seq (.reg [] 504 [(5, (ld (ia 1 (x 6) (x 8)))), (4, (x 8))]) (.block 2 (.loop (.seq (.ife [] 504 [] (ne (x 5) (.c (.int .u64 0))) .skip (.exit 2)) (.seq (.block 3 (.reg [.eff [(19, (x 3))] 524784 (some 25) (one 1 true [(.int .i64 0)]) [(add (bn .mul (x 4) (k 64)) (.call n.word_First [(x 5)]))], .eff [] 496 (some 26) (apd 1 true 8) [(x 19), (x 25)]] 504 [(3, (x 26))])) (.reg [] 504 [(5, (bn .and (x 5) (sub (x 5) (.c (.int .u64 1)))))]))))))) (.reg [] 456 [(8, (add (x 8) (k 1)))])))))) (.seq (.reg [] 4 [(2, (x 3))]) .ret))))⟩
def b.strings_Builder__grow : BF := ⟨2, true, .froz, [], (.seq .stuck (.seq (.reg [.eff [] 17 (some 25) (.e (.copy 1 (.t 0) (.t 1))) [(x 4), (ld (fa 1 (nk (x 0))))]] 17 []) (.reg [.eff [] 0 none (sto 1) [(fa 1 (nk (x 0))), (x 4)]] 0 [])))⟩
def b.slices_Concat___api_Op_api_Op : BF := ⟨1, true, .frozF, [.t 2], (.seq (.reg [] 1 []) (.seq (.reg [] 9 [(3, (k 0))]) (.seq (.seq (.reg [] 3593 [(11, (k 0)), (10, (len (x 0))), (9, (x 0))]) (.block 0 (.loop (.seq (.ife [] 3593 [] (lt (x 11) (x 10)) .skip (.exit 0)) (.seq (.block 1 (.seq (.reg [] 3625 [(5, (ld (ia 1 (x 9) (x 11))))]) (.seq (.reg [] 3593 [(3, (add (x 3) (len (x 5))))]) (.ife [] 3593 [] (lt (x 3) (k 0)) .stuck .skip)))) (.reg [] 3593 [(11, (add (x 11) (k 1)))])))))) (.seq (.reg [.eff [] 1 (some 24) (.call n.slices_Grow___api_Op_api_Op) [(.c .nil), (x 3)]] 65 [(6, (x 24))]) (.seq (.seq (.reg [] 234881088 [(27, (k 0)), (26, (len (x 0))), (25, (x 0))]) (.block 2 (.loop (.seq (.ife [] 234881088 [] (lt (x 27) (x 26)) .skip (.exit 2)) (.seq (.block 3 (.seq (.reg [] 234881344 [(8, (ld (ia 1 (x 25) (x 27))))]) (.reg [.eff [] 234881024 (some 33) (apd 3 true 32) [(x 6), (x 8)]] 234881088 [(6, (x 33))]))) (.reg [] 234881088 [(27, (add (x 27) (k 1)))])))))) (.seq (.reg [] 4 [(2, (x 6))]) .ret))))))⟩
def b.slices_IndexFunc___api_Op_api_Op : BF := ⟨2, false, .froz, [.t 4], (.seq (.reg [] 3 []) (.seq (.seq (.reg [] 387 [(8, (k 0)), (7, (len (x 0)))]) (.block 0 (.loop (.seq (.ife [] 387 [] (lt (x 8) (x 7)) .skip (.exit 0)) (.seq (.block 1 (.seq (.reg [] 419 [(5, (x 8))]) (.ife [] 419 [] (.callv [(x 1), (ldn 3 (ia 3 (x 0) (x 5)))]) (.seq (.reg [] 16 [(4, (x 5))]) .ret) .skip))) (.reg [] 387 [(8, (add (x 8) (k 1)))])))))) (.seq (.reg [] 16 [(4, (k (-1)))]) .ret)))⟩
def b.strings_Trim : BF := ⟨2, true, .scal, [.t 4], (.seq (.reg [] 3 []) (.seq (.ife [] 3 [] (.or (eq (x 0) (.c (.str []))) (eq (x 1) (.c (.str [])))) (.seq (.reg [] 16 [(4, (x 0))]) .ret) .skip) (.seq (.ife [] 3 [] (.and (eq (sln (x 1)) (k 1)) (lt (ix (x 1) (k 0)) (kc 128))) (.seq (.reg [] 16 [(4, (.call n.strings_trimLeftByte [(.call n.strings_trimRightByte [(x 0), (ix (x 1) (k 0))]), (ix (x 1) (k 0))]))]) .ret) .skip) (.seq (.seq (.reg [.eff [(33, (xt (.call n.strings_makeASCIISet [(x 1)]) 1)), (32, (xt (.call n.strings_makeASCIISet [(x 1)]) 0))] 12884901891 (some 5) (alo 256 true (.agg (List.replicate 256 (.bool false)))) [], .eff [] 8589934627 none (sto 256) [(x 5), (x 32)]] 99 [(6, (x 33))]) (.ife [] 35 [] (x 6) (.seq (.reg [] 16 [(4, (.call n.strings_trimLeftASCII [(.call n.strings_trimRightASCII [(x 0), (x 5)]), (x 5)]))]) .ret) .skip)) (.seq (.reg [] 16 [(4, (.call n.strings_trimLeftUnicode [(.call n.strings_trimRightUnicode [(x 0), (x 1)]), (x 1)]))]) .ret)))))⟩
def b.ref01_Bit : BF := ⟨1, true, .scal, [.t 2], (.seq (.reg [] 1 []) (.seq (.ife [] 1 [] (.or (lt (x 0) (k 0)) (gt (x 0) (k 63))) (.seq (.reg [] 4 [(2, (.c (.int .u64 0)))]) .ret) .skip) (.seq (.reg [] 9 [(3, (.c (.int .u64 1)))]) (.seq (.block 0 (.loop (.seq (.ife [] 9 [] (gt (x 0) (k 0)) .skip (.exit 0)) (.seq (.block 1 (.reg [] 9 [(3, (bn .mul (x 3) (.c (.int .u64 2))))])) (.reg [] 9 [(0, (sub (x 0) (k 1)))]))))) (.seq (.reg [] 4 [(2, (x 3))]) .ret)))))⟩
def b.word_First : BF := ⟨1, true, .froz, [.t 2], (.seq (.reg [] 1 []) (.seq (.reg [] 4 [(2, (.call n.math_bits_TrailingZeros64 [(x 0)]))]) .ret))⟩
def b.strings_trimLeftByte : BF := ⟨2, true, .froz, [.t 4], (.seq (.reg [] 3 []) (.seq (.block 0 (.loop (.seq (.ife [] 3 [] (.and (gt (sln (x 0)) (k 0)) (eq (ix (x 0) (k 0)) (x 1))) .skip (.exit 0)) (.block 1 (.reg [] 3 [(0, (.p (.sls (.t 0) (some (.t 1)) none) [(x 0), (k 1)]))]))))) (.seq (.reg [] 16 [(4, (x 0))]) .ret)))⟩
def b.strings_trimRightByte : BF := ⟨2, true, .froz, [.t 4], (.seq (.reg [] 3 []) (.seq (.block 0 (.loop (.seq (.ife [] 3 [] (.and (gt (sln (x 0)) (k 0)) (eq (ix (x 0) (sub (sln (x 0)) (k 1))) (x 1))) .skip (.exit 0)) (.block 1 (.reg [] 3 [(0, (.p (.sls (.t 0) none (some (.t 1))) [(x 0), (sub (sln (x 0)) (k 1))]))]))))) (.seq (.reg [] 16 [(4, (x 0))]) .ret)))⟩
def b.strings_makeASCIISet : BF := ⟨1, true, .froz, [.cell 2 ⟨true, 256⟩, .t 3], (.seq (.reg [.eff [] 1 (some 2) (alo 256 true (.agg (List.replicate 256 (.bool false)))) []] 5 []) (.seq (.seq (.reg [] 21 [(4, (k 0))]) (.block 0 (.loop (.seq (.ife [] 21 [] (lt (x 4) (sln (x 0))) .skip (.exit 0)) (.seq (.block 1 (.seq (.reg [] 53 [(5, (ix (x 0) (x 4)))]) (.seq (.ife [] 53 [] (ge (x 5) (kc 128)) (.seq (.reg [.eff [] 4 none (sto 256) [(x 2), (ldn 256 (x 2))]] 12 [(3, (kb false))]) .ret) .skip) (.reg [.eff [] 21 none (sto 1) [(.p (.iar 256 1 (.t 0) (.t 1)) [(x 2), (x 5)]), (kb true)]] 21 [])))) (.reg [] 21 [(4, (add (x 4) (k 1)))])))))) (.seq (.reg [.eff [] 4 none (sto 256) [(x 2), (ldn 256 (x 2))]] 12 [(3, (kb true))]) .ret)))⟩
def b.strings_trimLeftASCII : BF := ⟨2, false, .froz, [.t 4], (.seq (.reg [] 3 []) (.seq (.block 0 (.loop (.seq (.ife [] 3 [] (gt (sln (x 0)) (k 0)) .skip (.exit 0)) (.block 1 (.seq (.ife [] 3 [] (nt (.call n.strings_asciiSet__contains [(x 1), (ix (x 0) (k 0))])) (.exit 0) .skip) (.reg [] 3 [(0, (.p (.sls (.t 0) (some (.t 1)) none) [(x 0), (k 1)]))])))))) (.seq (.reg [] 16 [(4, (x 0))]) .ret)))⟩
def b.strings_trimRightASCII : BF := ⟨2, false, .froz, [.t 4], (.seq (.reg [] 3 []) (.seq (.block 0 (.loop (.seq (.ife [] 3 [] (gt (sln (x 0)) (k 0)) .skip (.exit 0)) (.block 1 (.seq (.ife [] 3 [] (nt (.call n.strings_asciiSet__contains [(x 1), (ix (x 0) (sub (sln (x 0)) (k 1)))])) (.exit 0) .skip) (.reg [] 3 [(0, (.p (.sls (.t 0) none (some (.t 1))) [(x 0), (sub (sln (x 0)) (k 1))]))])))))) (.seq (.reg [] 16 [(4, (x 0))]) .ret)))⟩
def b.strings_trimLeftUnicode : BF := ⟨2, true, .froz, [.t 4], (.seq (.reg [] 3 []) (.seq (.block 0 (.loop (.seq (.ife [] 3 [] (gt (sln (x 0)) (k 0)) .skip (.exit 0)) (.block 1 (.seq (.reg [] 99 [(6, (xt (.call 83 [(x 0)]) 1)), (5, (xt (.call 83 [(x 0)]) 0))]) (.seq (.ife [] 67 [] (nt (.call n.strings_ContainsRune [(x 1), (x 5)])) (.exit 0) .skip) (.reg [] 3 [(0, (.p (.sls (.t 0) (some (.t 1)) none) [(x 0), (x 6)]))]))))))) (.seq (.reg [] 16 [(4, (x 0))]) .ret)))⟩
def b.strings_trimRightUnicode : BF := ⟨2, true, .froz, [.t 4], (.seq (.reg [] 3 []) (.seq (.block 0 (.loop (.seq (.ife [] 3 [] (gt (sln (x 0)) (k 0)) .skip (.exit 0)) (.block 1 (.seq (.reg [] 99 [(6, (k 1)), (5, (.p (.conv .i32 (.t 0)) [(ix (x 0) (sub (sln (x 0)) (k 1)))]))]) (.seq (.ife [] 99 [] (ge (x 5) (.c (.int .i32 128))) (.reg [] 99 [(6, (xt (.call 85 [(x 0)]) 1)), (5, (xt (.call 85 [(x 0)]) 0))]) .skip) (.seq (.ife [] 67 [] (nt (.call n.strings_ContainsRune [(x 1), (x 5)])) (.exit 0) .skip) (.reg [] 3 [(0, (.p (.sls (.t 0) none (some (.t 1))) [(x 0), (sub (sln (x 0)) (x 6))]))])))))))) (.seq (.reg [] 16 [(4, (x 0))]) .ret)))⟩
def b.strings_asciiSet__contains : BF := ⟨2, false, .froz, [.t 4], (.seq (.reg [] 3 []) (.seq (.reg [] 16 [(4, (ld (.p (.iar 256 1 (.t 0) (.t 1)) [(nk (x 0)), (x 1)])))]) .ret))⟩
def b.strings_ContainsRune : BF := ⟨2, true, .froz, [.t 4], (.seq (.reg [] 3 []) (.seq (.reg [] 16 [(4, (ge (.call 92 [(x 0), (x 1)]) (k 0)))]) .ret))⟩
def b.math_bits_Len64 : BF := ⟨1, true, .froz, [.t 2], (.seq (.reg [] 5 [(2, (k 0))]) (.seq (.ife [] 5 [] (ge (x 0) (.c (.int .u64 4294967296))) (.seq (.reg [] 1 [(0, (bn .shr (x 0) (.c (.int .u64 32))))]) (.reg [] 5 [(2, (k 32))])) .skip) (.seq (.ife [] 5 [] (ge (x 0) (.c (.int .u64 65536))) (.seq (.reg [] 5 [(0, (bn .shr (x 0) (.c (.int .u64 16))))]) (.reg [] 5 [(2, (add (x 2) (k 16)))])) .skip) (.seq (.ife [] 5 [] (ge (x 0) (.c (.int .u64 256))) (.seq (.reg [] 5 [(0, (bn .shr (x 0) (.c (.int .u64 8))))]) (.reg [] 5 [(2, (add (x 2) (k 8)))])) .skip) (.seq (.reg [] 4 [(2, (add (x 2) (.p (.conv .i64 (.t 0)) [(ix (.c (.str [0, 1, 2, 2, 3, 3, 3, 3, 4, 4, 4, 4, 4, 4, 4, 4, 5, 5, 5, 5, 5, 5, 5, 5, 5, 5, 5, 5, 5, 5, 5, 5, 6, 6, 6, 6, 6, 6, 6, 6, 6, 6, 6, 6, 6, 6, 6, 6, 6, 6, 6, 6, 6, 6, 6, 6, 6, 6, 6, 6, 6, 6, 6, 6, 7, 7, 7, 7, 7, 7, 7, 7, 7, 7, 7, 7, 7, 7, 7, 7, 7, 7, 7, 7, 7, 7, 7, 7, 7, 7, 7, 7, 7, 7, 7, 7, 7, 7, 7, 7, 7, 7, 7, 7, 7, 7, 7, 7, 7, 7, 7, 7, 7, 7, 7, 7, 7, 7, 7, 7, 7, 7, 7, 7, 7, 7, 7, 7, 8, 8, 8, 8, 8, 8, 8, 8, 8, 8, 8, 8, 8, 8, 8, 8, 8, 8, 8, 8, 8, 8, 8, 8, 8, 8, 8, 8, 8, 8, 8, 8, 8, 8, 8, 8, 8, 8, 8, 8, 8, 8, 8, 8, 8, 8, 8, 8, 8, 8, 8, 8, 8, 8, 8, 8, 8, 8, 8, 8, 8, 8, 8, 8, 8, 8, 8, 8, 8, 8, 8, 8, 8, 8, 8, 8, 8, 8, 8, 8, 8, 8, 8, 8, 8, 8, 8, 8, 8, 8, 8, 8, 8, 8, 8, 8, 8, 8, 8, 8, 8, 8, 8, 8, 8, 8, 8, 8, 8, 8, 8, 8, 8, 8, 8, 8, 8, 8, 8, 8, 8, 8, 8, 8, 8, 8, 8, 8])) (.p (.conv .u8 (.t 0)) [(x 0)]))])))]) .ret)))))⟩
def b.math_bits_TrailingZeros : BF := ⟨1, true, .froz, [.t 2], (.seq (.ife [] 1 [] (kb false) (.seq (.reg [] 4 [(2, (.call n.math_bits_TrailingZeros32 [(.p (.conv .u32 (.t 0)) [(x 0)])]))]) .ret) .skip) (.seq (.reg [] 4 [(2, (.call n.math_bits_TrailingZeros64 [(x 0)]))]) .ret))⟩
def b.math_bits_TrailingZeros32 : BF := ⟨1, true, .froz, [.t 2], (.seq (.reg [] 1 []) (.seq (.ife [] 0 [] (eq (x 0) (.c (.int .u32 0))) (.seq (.reg [] 4 [(2, (k 32))]) .ret) .skip) (.seq .stuck .ret)))⟩
def b.strings_IndexByte : BF := ⟨2, true, .froz, [.t 4], (.seq (.reg [] 3 []) (.seq (.reg [] 16 [(4, (.call 99 [(x 0), (x 1)]))]) .ret))⟩
def effs : List Nat := [69, 39, 40, 31, 54, 48, 59, 28, 29, 30]
end Go.AM

set_option linter.unusedVariables false
namespace Go.AM
open Go.Proofs
theorem r.law26_TellTells : rowOk Tryd.prog effs n.law26_TellTells false b.law26_TellTells = true := by kernel_rfl
theorem r.law26_TellUnlike : rowOk Tryd.prog effs n.law26_TellUnlike false b.law26_TellUnlike = true := by kernel_rfl
theorem r.law26_TellLines : rowOk Tryd.prog effs n.law26_TellLines false b.law26_TellLines = true := by kernel_rfl
theorem r.law08_ShowTells : rowOk Tryd.prog effs n.law08_ShowTells false b.law08_ShowTells = true := by kernel_rfl
theorem r.law08_ShowBack : rowOk Tryd.prog effs n.law08_ShowBack false b.law08_ShowBack = true := by kernel_rfl
theorem r.law08_ShowJoins : rowOk Tryd.prog effs n.law08_ShowJoins false b.law08_ShowJoins = true := by kernel_rfl
theorem r.law26_few : rowOk Tryd.prog effs n.law26_few false b.law26_few = true := by kernel_rfl
theorem r.law26_awake : rowOk Tryd.prog effs n.law26_awake false b.law26_awake = true := by kernel_rfl
theorem r.tell_Text : rowOk Tryd.prog effs n.tell_Text false b.tell_Text = true := by kernel_rfl
theorem r.ref26_Text : rowOk Tryd.prog effs n.ref26_Text false b.ref26_Text = true := by kernel_rfl
theorem r.tell_Line : rowOk Tryd.prog effs n.tell_Line false b.tell_Line = true := by kernel_rfl
theorem r.ref26_Line : rowOk Tryd.prog effs n.ref26_Line false b.ref26_Line = true := by kernel_rfl
theorem r.tell_Numbers : rowOk Tryd.prog effs n.tell_Numbers false b.tell_Numbers = true := by kernel_rfl
theorem r.ref26_Numbers : rowOk Tryd.prog effs n.ref26_Numbers false b.ref26_Numbers = true := by kernel_rfl
theorem r.ref06_Small : rowOk Tryd.prog effs n.ref06_Small false b.ref06_Small = true := by kernel_rfl
theorem r.law08_awake : rowOk Tryd.prog effs n.law08_awake false b.law08_awake = true := by kernel_rfl
theorem r.show_Text : rowOk Tryd.prog effs n.show_Text false b.show_Text = true := by kernel_rfl
theorem r.ref08_Text : rowOk Tryd.prog effs n.ref08_Text false b.ref08_Text = true := by kernel_rfl
theorem r.show_Op : rowOk Tryd.prog effs n.show_Op false b.show_Op = true := by kernel_rfl
theorem r.ref08_Op : rowOk Tryd.prog effs n.ref08_Op false b.ref08_Op = true := by kernel_rfl
theorem r.ref06_Right : rowOk Tryd.prog effs n.ref06_Right false b.ref06_Right = true := by kernel_rfl
theorem r.ref07_Text : rowOk Tryd.prog effs n.ref07_Text false b.ref07_Text = true := by kernel_rfl
theorem r.ref06_Same : rowOk Tryd.prog effs n.ref06_Same false b.ref06_Same = true := by kernel_rfl
theorem r.ref24_Small : rowOk Tryd.prog effs n.ref24_Small false b.ref24_Small = true := by kernel_rfl
theorem r.ref03_Right : rowOk Tryd.prog effs n.ref03_Right false b.ref03_Right = true := by kernel_rfl
theorem r.tell_teller__say : rowOk Tryd.prog effs n.tell_teller__say false b.tell_teller__say = true := by kernel_rfl
theorem r.tell_teller__cert : rowOk Tryd.prog effs n.tell_teller__cert false b.tell_teller__cert = true := by kernel_rfl
theorem r.tell_teller__witness : rowOk Tryd.prog effs n.tell_teller__witness false b.tell_teller__witness = true := by kernel_rfl
theorem cc.strings_Builder__String : canCall Tryd.prog n.strings_Builder__String = true := by kernel_rfl
theorem r.ref03_Pairs : rowOk Tryd.prog effs n.ref03_Pairs false b.ref03_Pairs = true := by kernel_rfl
theorem cc.strings_Join : canCall Tryd.prog n.strings_Join = true := by kernel_rfl
theorem r.num_Put : rowOk Tryd.prog effs n.num_Put false b.num_Put = true := by kernel_rfl
theorem r.ref05_Put : rowOk Tryd.prog effs n.ref05_Put false b.ref05_Put = true := by kernel_rfl
theorem r.ref06_Count : rowOk Tryd.prog effs n.ref06_Count false b.ref06_Count = true := by kernel_rfl
theorem r.ref06_Flat : rowOk Tryd.prog effs n.ref06_Flat false b.ref06_Flat = true := by kernel_rfl
theorem r.hist_Right : rowOk Tryd.prog effs n.hist_Right false b.hist_Right = true := by kernel_rfl
theorem cc.strings_Builder__WriteByte : canCall Tryd.prog n.strings_Builder__WriteByte = true := by kernel_rfl
theorem cc.strings_Builder__WriteString : canCall Tryd.prog n.strings_Builder__WriteString = true := by kernel_rfl
theorem r.ref06_Name : rowOk Tryd.prog effs n.ref06_Name false b.ref06_Name = true := by kernel_rfl
theorem r.ref07_one : rowOk Tryd.prog effs n.ref07_one false b.ref07_one = true := by kernel_rfl
theorem r.ref03_Small : rowOk Tryd.prog effs n.ref03_Small false b.ref03_Small = true := by kernel_rfl
theorem r.ref02_Words : rowOk Tryd.prog effs n.ref02_Words false b.ref02_Words = true := by kernel_rfl
theorem r.ref02_Has : rowOk Tryd.prog effs n.ref02_Has false b.ref02_Has = true := by kernel_rfl
theorem r.mat_Pairs : rowOk Tryd.prog effs n.mat_Pairs false b.mat_Pairs = true := by kernel_rfl
theorem r.ref02_List : rowOk Tryd.prog effs n.ref02_List false b.ref02_List = true := by kernel_rfl
theorem r.strings_Builder__Grow : rowOk Tryd.prog effs n.strings_Builder__Grow false b.strings_Builder__Grow = true := by kernel_rfl
theorem cc.strconv_Itoa : canCall Tryd.prog n.strconv_Itoa = true := by kernel_rfl
theorem r.hist_Flat : rowOk Tryd.prog effs n.hist_Flat false b.hist_Flat = true := by kernel_rfl
theorem r.slices_ContainsFunc___api_Op_api_Op : rowOk Tryd.prog effs n.slices_ContainsFunc___api_Op_api_Op false b.slices_ContainsFunc___api_Op_api_Op = true := by kernel_rfl
theorem r.hist_Right_1 : rowOk Tryd.prog effs n.hist_Right_1 false b.hist_Right_1 = true := by kernel_rfl
theorem r.hist_named : rowOk Tryd.prog effs n.hist_named false b.hist_named = true := by kernel_rfl
theorem r.strings_Builder__copyCheck : rowOk Tryd.prog effs n.strings_Builder__copyCheck false b.strings_Builder__copyCheck = true := by kernel_rfl
theorem r.ref05_Span : rowOk Tryd.prog effs n.ref05_Span false b.ref05_Span = true := by kernel_rfl
theorem r.ref05_Get : rowOk Tryd.prog effs n.ref05_Get false b.ref05_Get = true := by kernel_rfl
theorem r.ref01_Has : rowOk Tryd.prog effs n.ref01_Has false b.ref01_Has = true := by kernel_rfl
theorem r.row_List : rowOk Tryd.prog effs n.row_List false b.row_List = true := by kernel_rfl
theorem r.strings_Builder__grow : rowOk Tryd.prog effs n.strings_Builder__grow false b.strings_Builder__grow = true := by kernel_rfl
theorem r.slices_Concat___api_Op_api_Op : rowOk Tryd.prog effs n.slices_Concat___api_Op_api_Op false b.slices_Concat___api_Op_api_Op = true := by kernel_rfl
theorem r.slices_IndexFunc___api_Op_api_Op : rowOk Tryd.prog effs n.slices_IndexFunc___api_Op_api_Op false b.slices_IndexFunc___api_Op_api_Op = true := by kernel_rfl
theorem r.strings_Trim : rowOk Tryd.prog effs n.strings_Trim false b.strings_Trim = true := by kernel_rfl
theorem r.ref01_Bit : rowOk Tryd.prog effs n.ref01_Bit false b.ref01_Bit = true := by kernel_rfl
theorem r.word_First : rowOk Tryd.prog effs n.word_First false b.word_First = true := by kernel_rfl
theorem cc.slices_Grow___api_Op_api_Op : canCall Tryd.prog n.slices_Grow___api_Op_api_Op = true := by kernel_rfl
theorem r.strings_trimLeftByte : rowOk Tryd.prog effs n.strings_trimLeftByte false b.strings_trimLeftByte = true := by kernel_rfl
theorem r.strings_trimRightByte : rowOk Tryd.prog effs n.strings_trimRightByte false b.strings_trimRightByte = true := by kernel_rfl
theorem r.strings_makeASCIISet : rowOk Tryd.prog effs n.strings_makeASCIISet false b.strings_makeASCIISet = true := by kernel_rfl
theorem r.strings_trimLeftASCII : rowOk Tryd.prog effs n.strings_trimLeftASCII false b.strings_trimLeftASCII = true := by kernel_rfl
theorem r.strings_trimRightASCII : rowOk Tryd.prog effs n.strings_trimRightASCII false b.strings_trimRightASCII = true := by kernel_rfl
theorem r.strings_trimLeftUnicode : rowOk Tryd.prog effs n.strings_trimLeftUnicode false b.strings_trimLeftUnicode = true := by kernel_rfl
theorem r.strings_trimRightUnicode : rowOk Tryd.prog effs n.strings_trimRightUnicode false b.strings_trimRightUnicode = true := by kernel_rfl
theorem cc.math_bits_TrailingZeros64 : canCall Tryd.prog n.math_bits_TrailingZeros64 = true := by kernel_rfl
theorem r.strings_asciiSet__contains : rowOk Tryd.prog effs n.strings_asciiSet__contains false b.strings_asciiSet__contains = true := by kernel_rfl
theorem r.strings_ContainsRune : rowOk Tryd.prog effs n.strings_ContainsRune false b.strings_ContainsRune = true := by kernel_rfl
theorem r.math_bits_Len64 : rowOk Tryd.prog effs n.math_bits_Len64 false b.math_bits_Len64 = true := by kernel_rfl
theorem r.math_bits_TrailingZeros : rowOk Tryd.prog effs n.math_bits_TrailingZeros false b.math_bits_TrailingZeros = true := by kernel_rfl
theorem r.math_bits_TrailingZeros32 : rowOk Tryd.prog effs n.math_bits_TrailingZeros32 false b.math_bits_TrailingZeros32 = true := by kernel_rfl
theorem r.strings_IndexByte : rowOk Tryd.prog effs n.strings_IndexByte false b.strings_IndexByte = true := by kernel_rfl
def tab : List (Nat × Row) := [(n.law26_TellTells, .fn false b.law26_TellTells), (n.law26_TellUnlike, .fn false b.law26_TellUnlike), (n.law26_TellLines, .fn false b.law26_TellLines), (n.law08_ShowTells, .fn false b.law08_ShowTells), (n.law08_ShowBack, .fn false b.law08_ShowBack), (n.law08_ShowJoins, .fn false b.law08_ShowJoins), (n.law26_few, .fn false b.law26_few), (n.law26_awake, .fn false b.law26_awake), (n.tell_Text, .fn false b.tell_Text), (n.ref26_Text, .fn false b.ref26_Text), (n.tell_Line, .fn false b.tell_Line), (n.ref26_Line, .fn false b.ref26_Line), (n.tell_Numbers, .fn false b.tell_Numbers), (n.ref26_Numbers, .fn false b.ref26_Numbers), (n.ref06_Small, .fn false b.ref06_Small), (n.law08_awake, .fn false b.law08_awake), (n.show_Text, .fn false b.show_Text), (n.ref08_Text, .fn false b.ref08_Text), (n.show_Op, .fn false b.show_Op), (n.ref08_Op, .fn false b.ref08_Op), (n.ref06_Right, .fn false b.ref06_Right), (n.ref07_Text, .fn false b.ref07_Text), (n.ref06_Same, .fn false b.ref06_Same), (n.ref24_Small, .fn false b.ref24_Small), (n.ref03_Right, .fn false b.ref03_Right), (n.tell_teller__say, .fn false b.tell_teller__say), (n.tell_teller__cert, .fn false b.tell_teller__cert), (n.tell_teller__witness, .fn false b.tell_teller__witness), (n.strings_Builder__String, .ext gStr), (n.ref03_Pairs, .fn false b.ref03_Pairs), (n.strings_Join, .ext gJoin), (n.num_Put, .fn false b.num_Put), (n.ref05_Put, .fn false b.ref05_Put), (n.ref06_Count, .fn false b.ref06_Count), (n.ref06_Flat, .fn false b.ref06_Flat), (n.hist_Right, .fn false b.hist_Right), (n.strings_Builder__WriteByte, .ext gWB), (n.strings_Builder__WriteString, .ext gWS), (n.ref06_Name, .fn false b.ref06_Name), (n.ref07_one, .fn false b.ref07_one), (n.ref03_Small, .fn false b.ref03_Small), (n.ref02_Words, .fn false b.ref02_Words), (n.ref02_Has, .fn false b.ref02_Has), (n.mat_Pairs, .fn false b.mat_Pairs), (n.ref02_List, .fn false b.ref02_List), (n.strings_Builder__Grow, .fn false b.strings_Builder__Grow), (n.strconv_Itoa, .ext gItoa), (n.hist_Flat, .fn false b.hist_Flat), (n.slices_ContainsFunc___api_Op_api_Op, .fn false b.slices_ContainsFunc___api_Op_api_Op), (n.hist_Right_1, .fn false b.hist_Right_1), (n.hist_named, .fn false b.hist_named), (n.strings_Builder__copyCheck, .fn false b.strings_Builder__copyCheck), (n.ref05_Span, .fn false b.ref05_Span), (n.ref05_Get, .fn false b.ref05_Get), (n.ref01_Has, .fn false b.ref01_Has), (n.row_List, .fn false b.row_List), (n.strings_Builder__grow, .fn false b.strings_Builder__grow), (n.slices_Concat___api_Op_api_Op, .fn false b.slices_Concat___api_Op_api_Op), (n.slices_IndexFunc___api_Op_api_Op, .fn false b.slices_IndexFunc___api_Op_api_Op), (n.strings_Trim, .fn false b.strings_Trim), (n.ref01_Bit, .fn false b.ref01_Bit), (n.word_First, .fn false b.word_First), (n.slices_Grow___api_Op_api_Op, .ext gGrow), (n.strings_trimLeftByte, .fn false b.strings_trimLeftByte), (n.strings_trimRightByte, .fn false b.strings_trimRightByte), (n.strings_makeASCIISet, .fn false b.strings_makeASCIISet), (n.strings_trimLeftASCII, .fn false b.strings_trimLeftASCII), (n.strings_trimRightASCII, .fn false b.strings_trimRightASCII), (n.strings_trimLeftUnicode, .fn false b.strings_trimLeftUnicode), (n.strings_trimRightUnicode, .fn false b.strings_trimRightUnicode), (n.math_bits_TrailingZeros64, .ext gTz), (n.strings_asciiSet__contains, .fn false b.strings_asciiSet__contains), (n.strings_ContainsRune, .fn false b.strings_ContainsRune), (n.math_bits_Len64, .fn false b.math_bits_Len64), (n.math_bits_TrailingZeros, .fn false b.math_bits_TrailingZeros), (n.math_bits_TrailingZeros32, .fn false b.math_bits_TrailingZeros32), (n.strings_IndexByte, .fn false b.strings_IndexByte)]
theorem tabOk : AllR Tryd.prog effs tab := .cons r.law26_TellTells (.cons r.law26_TellUnlike (.cons r.law26_TellLines (.cons r.law08_ShowTells (.cons r.law08_ShowBack (.cons r.law08_ShowJoins (.cons r.law26_few (.cons r.law26_awake (.cons r.tell_Text (.cons r.ref26_Text (.cons r.tell_Line (.cons r.ref26_Line (.cons r.tell_Numbers (.cons r.ref26_Numbers (.cons r.ref06_Small (.cons r.law08_awake (.cons r.show_Text (.cons r.ref08_Text (.cons r.show_Op (.cons r.ref08_Op (.cons r.ref06_Right (.cons r.ref07_Text (.cons r.ref06_Same (.cons r.ref24_Small (.cons r.ref03_Right (.cons r.tell_teller__say (.cons r.tell_teller__cert (.cons r.tell_teller__witness (.cons ⟨cc.strings_Builder__String, string_ok⟩ (.cons r.ref03_Pairs (.cons ⟨cc.strings_Join, join_ok⟩ (.cons r.num_Put (.cons r.ref05_Put (.cons r.ref06_Count (.cons r.ref06_Flat (.cons r.hist_Right (.cons ⟨cc.strings_Builder__WriteByte, writeByte_ok⟩ (.cons ⟨cc.strings_Builder__WriteString, writeString_ok⟩ (.cons r.ref06_Name (.cons r.ref07_one (.cons r.ref03_Small (.cons r.ref02_Words (.cons r.ref02_Has (.cons r.mat_Pairs (.cons r.ref02_List (.cons r.strings_Builder__Grow (.cons ⟨cc.strconv_Itoa, itoa_ok⟩ (.cons r.hist_Flat (.cons r.slices_ContainsFunc___api_Op_api_Op (.cons r.hist_Right_1 (.cons r.hist_named (.cons r.strings_Builder__copyCheck (.cons r.ref05_Span (.cons r.ref05_Get (.cons r.ref01_Has (.cons r.row_List (.cons r.strings_Builder__grow (.cons r.slices_Concat___api_Op_api_Op (.cons r.slices_IndexFunc___api_Op_api_Op (.cons r.strings_Trim (.cons r.ref01_Bit (.cons r.word_First (.cons ⟨cc.slices_Grow___api_Op_api_Op, grow_ok⟩ (.cons r.strings_trimLeftByte (.cons r.strings_trimRightByte (.cons r.strings_makeASCIISet (.cons r.strings_trimLeftASCII (.cons r.strings_trimRightASCII (.cons r.strings_trimLeftUnicode (.cons r.strings_trimRightUnicode (.cons ⟨cc.math_bits_TrailingZeros64, tz_ok⟩ (.cons r.strings_asciiSet__contains (.cons r.strings_ContainsRune (.cons r.math_bits_Len64 (.cons r.math_bits_TrailingZeros (.cons r.math_bits_TrailingZeros32 (.cons r.strings_IndexByte (.nil)))))))))))))))))))))))))))))))))))))))))))))))))))))))))))))))))))))))))))))
noncomputable abbrev T0 : Nat → Option Fn := tblOf Tryd.prog tab
theorem T0ok : TblOK Tryd.prog T0 := tblOf_ok tabOk
end Go.AM

