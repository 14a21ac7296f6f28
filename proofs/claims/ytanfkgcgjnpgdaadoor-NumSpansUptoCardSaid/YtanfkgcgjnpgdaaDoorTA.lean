/- Part TA of the proof. -/
import Derived.Shelf.LaysM
import Derived.Shelf.Strconv.Itoa3
import Derived.Test.YtanfkgcgjnpgdaaDoorProg
import Derived.Test.YtanfkgcgjnpgdaaDoorA2
import Derived.Lib.ItoaNum
import Derived.Test.YtanfkgcgjnpgdaaDoorA3
import Derived.KernelRfl
/-
  DERIVED: THE SHELF's CONTRACTS AT THIS DUMP, IN PLAIN WORDS (tools/lay-plain.mjs out of 'YtanfkgcgjnpgdaaDoorSrcItoa.lean', which tools/lay-shelf.mjs wrote): THE SAME DECLARATIONS UNDER THE SAME NAMES: 'import', 'namespace', 'open', 'def', 'theorem' AND NOTHING ELSE: no command of the shelf's: FOR A HAND-IN. Each laying: the table of numbers ('.._ren') and one theorem, a field a fact of the dump's own or the kernel's comparison; each contract: ONE APPLICATION.
-/
namespace Go.Proofs
open Go.Shelf
def Tryd.lays171_ren : Go.Shelf.Ren := ⟨fun | 171 => 15 | 243 => 26 | 246 => 33 | 283 => 37 | 284 => 38 | 285 => 39 | 286 => 40 | 129 => 46 | 317 => 45 | 318 => 47 | 319 => 48 | 320 => 49 | 337 => 51 | 338 => 52 | n => n, fun | 3 => 3 | 9 => 9 | 2 => 2 | 4 => 4 | 171 => 49 | 0 => 0 | 53 => 33 | 37 => 34 | 5 => 5 | 173 => 52 | 212 => 64 | 51 => 65 | 20 => 20 | 213 => 66 | 46 => 55 | 232 => 70 | 233 => 71 | n => n, fun | 17 => 2 | 18 => 4 | 19 => 5 | n => n⟩
theorem Tryd.lays171 : Go.Proofs.LaysM.n171 Tryd.prog Tryd.lays171_ren := {
  mixed := by kernel_rfl
  f129 := Tryd.func46.trans (congrArg some (by kernel_rfl))
  f171 := Tryd.func15.trans (congrArg some (by kernel_rfl))
  f243 := Tryd.func26.trans (congrArg some (by kernel_rfl))
  f246 := Tryd.func33.trans (congrArg some (by kernel_rfl))
  f283 := Tryd.func37.trans (congrArg some (by kernel_rfl))
  f284 := Tryd.func38.trans (congrArg some (by kernel_rfl))
  f285 := Tryd.func39.trans (congrArg some (by kernel_rfl))
  f286 := Tryd.func40.trans (congrArg some (by kernel_rfl))
  f317 := Tryd.func45.trans (congrArg some (by kernel_rfl))
  f318 := Tryd.func47.trans (congrArg some (by kernel_rfl))
  f319 := Tryd.func48.trans (congrArg some (by kernel_rfl))
  f320 := Tryd.func49.trans (congrArg some (by kernel_rfl))
  f337 := Tryd.func51.trans (congrArg some (by kernel_rfl))
  f338 := Tryd.func52.trans (congrArg some (by kernel_rfl))
  t0 := Tryd.underlying0
  a0 := Tryd.isAgg0
  z0 := Tryd.sizeOf0
  v0 := Tryd.zeroValue0
  t2 := Tryd.underlying2
  a2 := Tryd.isAgg2
  z2 := Tryd.sizeOf2
  v2 := Tryd.zeroValue2
  t3 := Tryd.underlying3
  a3 := Tryd.isAgg3
  z3 := Tryd.sizeOf3
  v3 := Tryd.zeroValue3
  t4 := Tryd.underlying4
  a4 := Tryd.isAgg4
  z4 := Tryd.sizeOf4
  v4 := Tryd.zeroValue4
  t5 := Tryd.underlying5
  a5 := Tryd.isAgg5
  z5 := Tryd.sizeOf5
  v5 := Tryd.zeroValue5
  t9 := Tryd.underlying9
  a9 := Tryd.isAgg9
  z9 := Tryd.sizeOf9
  v9 := Tryd.zeroValue9
  t20 := Tryd.underlying20
  a20 := Tryd.isAgg20
  z20 := Tryd.sizeOf20
  v20 := Tryd.zeroValue20
  t37 := Tryd.underlying34
  a37 := Tryd.isAgg34
  z37 := Tryd.sizeOf34
  v37 := Tryd.zeroValue34
  t46 := Tryd.underlying55
  a46 := Tryd.isAgg55
  z46 := Tryd.sizeOf55
  v46 := Tryd.zeroValue55
  t51 := Tryd.underlying65
  a51 := Tryd.isAgg65
  z51 := Tryd.sizeOf65
  v51 := Tryd.zeroValue65
  t53 := Tryd.underlying33
  a53 := Tryd.isAgg33
  z53 := Tryd.sizeOf33
  v53 := Tryd.zeroValue33
  t171 := Tryd.underlying49
  a171 := Tryd.isAgg49
  z171 := Tryd.sizeOf49
  v171 := Tryd.zeroValue49
  t173 := Tryd.underlying52
  a173 := Tryd.isAgg52
  z173 := Tryd.sizeOf52
  v173 := Tryd.zeroValue52
  t212 := Tryd.underlying64
  a212 := Tryd.isAgg64
  z212 := Tryd.sizeOf64
  v212 := Tryd.zeroValue64
  t213 := Tryd.underlying66
  a213 := Tryd.isAgg66
  z213 := Tryd.sizeOf66
  t232 := Tryd.underlying70
  a232 := Tryd.isAgg70
  z232 := Tryd.sizeOf70
  v232 := Tryd.zeroValue70
  t233 := Tryd.underlying71
  a233 := Tryd.isAgg71
  z233 := Tryd.sizeOf71
  v233 := Tryd.zeroValue71
  g17 := by kernel_rfl
  g18 := by kernel_rfl
  g19 := by kernel_rfl
  i0 := by kernel_rfl
  i2 := by kernel_rfl
  i3 := by kernel_rfl
  i4 := by kernel_rfl
  i5 := by kernel_rfl
  i9 := by kernel_rfl
  i20 := by kernel_rfl
  i37 := by kernel_rfl
  i46 := by kernel_rfl
  i51 := by kernel_rfl
  i53 := by kernel_rfl
  i171 := by kernel_rfl
  i173 := by kernel_rfl
  i212 := by kernel_rfl
  i232 := by kernel_rfl
  i233 := by kernel_rfl
  m17 := by kernel_rfl
  m18 := by kernel_rfl
  m19 := by kernel_rfl }
end Go.Proofs

/- strconv.Itoa, as the kit's library tells it. -/
set_option linter.unusedVariables false
set_option linter.unusedSimpArgs false
namespace Go.AM
open Go.Proofs Go.Sort
def gItoa : List V → Heap → Option (V × Heap)
  | [.int .i64 n], H => if -9223372036854775808 ≤ n ∧ n ≤ 9223372036854775807 then some (.str (Lib.itoa n), H) else none
  | _, _ => none
theorem glob10 : Tryd.prog.globalNamed "internal/strconv.uint64pow10" = some 2 := by kernel_rfl
theorem laid10 : laidCells 2 = some (Lib.pow10Tab.map fun z => V.int .u64 z) := by rfl
theorem itoa_ok : ∀ args H v H', gItoa args H = some (v, H') → H.length ≤ H'.length ∧ ∀ (μ : Mu) (S : Nat → Prop) (w : World) (cargs : Array Value), Inv μ S H w → VRels μ S w args cargs.toList →
    Calls Tryd.prog 15 cargs w fun e w' => ∃ cv μ' S', e = .returned cv ∧ VRel μ' S' w' v cv ∧ Inv μ' S' H' w' ∧ Ext μ S H w μ' S' H' w' := by
  intro args H v H' h
  unfold gItoa at h
  split at h
  · rename_i n
    split at h
    · rename_i hn
      injection h with h; injection h with e1 e2; subst e1; subst e2
      refine ⟨Nat.le_refl _, fun μ S w cargs I ha => ?_⟩
      obtain rfl : cargs = #[.int .i64 n] := by
        obtain ⟨l⟩ := cargs
        cases ha with
        | cons h1 h2 => cases h2; cases h1; rfl
      refine Calls.mono (Any.strconv_Itoa Tryd.lays171 n hn.1 hn.2 w (tab_of I.laid glob10 laid10)) ?_
      rintro e w' ⟨rfl, k, os, rfl⟩
      obtain ⟨i, x⟩ := inv_more (I.drawn (w.drawn + k)) os
      exact ⟨_, _, _, rfl, VRel.mkStr _, i, (Ext.drawn _ _ _ _ (w.drawn + k)).trans x⟩
    · cases h
  · cases h
end Go.AM

set_option linter.unusedVariables false
namespace Go.AM
open Go.Proofs B
abbrev n.law05_NumTells : Nat := 3
abbrev n.law05_NumBack : Nat := 4
abbrev n.law05_NumSpans : Nat := 5
abbrev n.law05_awake : Nat := 6
abbrev n.num_Get : Nat := 7
abbrev n.ref05_Get : Nat := 8
abbrev n.num_Put : Nat := 9
abbrev n.ref05_Put : Nat := 10
abbrev n.num_Span : Nat := 11
abbrev n.ref05_Span : Nat := 12
abbrev n.strings_CutPrefix : Nat := 13
abbrev n.strings_Trim : Nat := 14
abbrev n.strconv_Itoa : Nat := 15
abbrev n.strings_TrimPrefix : Nat := 16
abbrev n.strings_TrimLeft : Nat := 17
abbrev n.internal_stringslite_CutPrefix : Nat := 18
abbrev n.strings_trimLeftByte : Nat := 19
abbrev n.strings_trimRightByte : Nat := 20
abbrev n.strings_makeASCIISet : Nat := 21
abbrev n.strings_trimLeftASCII : Nat := 22
abbrev n.strings_trimRightASCII : Nat := 23
abbrev n.strings_trimLeftUnicode : Nat := 24
abbrev n.strings_trimRightUnicode : Nat := 25
abbrev n.internal_stringslite_TrimPrefix : Nat := 27
abbrev n.internal_stringslite_HasPrefix : Nat := 28
abbrev n.strings_asciiSet__contains : Nat := 29
abbrev n.strings_ContainsRune : Nat := 31
abbrev n.strings_IndexByte : Nat := 41
abbrev n.math_bits_Len64 : Nat := 46
abbrev n.math_bits_TrailingZeros : Nat := 49
abbrev n.math_bits_TrailingZeros32 : Nat := 51
abbrev n.math_bits_TrailingZeros64 : Nat := 52
def b.law05_NumTells : BF := ⟨3, true, .scal, [.t 6], (.seq (.reg [] 7 []) (.seq (.ife [] 7 [] (gt (sln (x 1)) (k 100)) (.seq (.reg [] 64 [(6, (.call n.law05_awake []))]) .ret) .skip) (.seq (.reg [] 391 [(8, (xt (.call n.num_Get [(x 1)]) 1)), (7, (xt (.call n.num_Get [(x 1)]) 0))]) (.seq (.reg [] 1927 [(10, (xt (.call n.ref05_Get [(x 1)]) 1)), (9, (xt (.call n.ref05_Get [(x 1)]) 0))]) (.seq (.reg [] 64 [(6, (.and (.and (.and (.and (.call n.law05_awake []) (eq (.call n.num_Put [(x 0)]) (.call n.ref05_Put [(x 0)]))) (eq (x 7) (x 9))) (eq (x 8) (x 10))) (eq (.call n.num_Span [(x 1), (x 2)]) (.call n.ref05_Span [(x 1), (x 2)]))))]) .ret)))))⟩
def b.law05_NumBack : BF := ⟨2, true, .scal, [.t 4], (.seq (.reg [] 3 []) (.seq (.ife [] 3 [] (gt (sln (x 1)) (k 100)) (.seq (.reg [] 16 [(4, (.call n.law05_awake []))]) .ret) .skip) (.seq (.reg [] 35 [(5, (.call n.num_Put [(x 0)]))]) (.seq (.reg [] 227 [(7, (xt (.call n.num_Get [(x 5)]) 1)), (6, (xt (.call n.num_Get [(x 5)]) 0))]) (.seq (.reg [] 995 [(9, (xt (.call n.num_Get [(x 1)]) 1)), (8, (xt (.call n.num_Get [(x 1)]) 0))]) (.seq (.reg [] 16 [(4, (.and (.and (.and (.and (.call n.law05_awake []) (eq (x 7) (k 0))) (eq (x 6) (x 0))) (eq (.call n.num_Span [(x 5), (k 0)]) (sln (x 5)))) (.or (.and (ne (x 9) (k 0)) (eq (x 8) (k 0))) (.and (eq (x 9) (k 0)) (eq (.call n.num_Put [(x 8)]) (x 1))))))]) .ret))))))⟩
def b.law05_NumSpans : BF := ⟨2, true, .scal, [.t 4], (.seq (.reg [] 3 []) (.seq (.ife [] 3 [] (gt (sln (x 1)) (k 100)) (.seq (.reg [] 16 [(4, (.call n.law05_awake []))]) .ret) .skip) (.seq (.reg [] 34 [(5, (.call n.num_Put [(x 0)]))]) (.seq (.reg [] 98 [(6, (.call n.num_Span [(add (add (x 1) (x 5)) (.c (.str [59]))), (sln (x 1))]))]) (.seq (.seq (.reg [] 226 [(7, (k 0))]) (.block 0 (.loop (.seq (.ife [] 226 [] (le (x 7) (sln (x 1))) .skip (.exit 0)) (.seq (.block 1 (.seq (.reg [] 482 [(8, (.call n.num_Span [(x 1), (x 7)]))]) (.ife [] 226 [] (.or (.or (lt (x 8) (k 0)) (gt (add (x 7) (x 8)) (sln (x 1)))) (.and (.and (.and (gt (x 8) (k 0)) (lt (x 7) (sln (x 1)))) (ne (ix (x 1) (x 7)) (kc 45))) (.or (lt (ix (x 1) (x 7)) (kc 48)) (gt (ix (x 1) (x 7)) (kc 57))))) (.seq (.reg [] 16 [(4, (kb false))]) .ret) .skip))) (.reg [] 226 [(7, (add (x 7) (k 1)))])))))) (.seq (.reg [] 16 [(4, (.and (.call n.law05_awake []) (eq (x 6) (sln (x 5)))))]) .ret))))))⟩
def b.law05_awake : BF := ⟨0, true, .scal, [.t 0], (.seq (.reg [] 0 []) (.seq (.reg [] 6 [(2, (xt (.call n.num_Get [(.c (.str [45, 57, 50, 50, 51, 51, 55, 50, 48, 51, 54, 56, 53, 52, 55, 55, 53, 56, 48, 56]))]) 1)), (1, (xt (.call n.num_Get [(.c (.str [45, 57, 50, 50, 51, 51, 55, 50, 48, 51, 54, 56, 53, 52, 55, 55, 53, 56, 48, 56]))]) 0))]) (.seq (.reg [ck (xt (.call n.num_Get [(.c (.str [57, 50, 50, 51, 51, 55, 50, 48, 51, 54, 56, 53, 52, 55, 55, 53, 56, 48, 56]))]) 0)] 22 [(4, (xt (.call n.num_Get [(.c (.str [57, 50, 50, 51, 51, 55, 50, 48, 51, 54, 56, 53, 52, 55, 55, 53, 56, 48, 56]))]) 1))]) (.seq (.reg [] 1 [(0, (.and (.and (.and (.and (eq (x 2) (k 0)) (eq (x 1) (k (-9223372036854775808)))) (eq (x 4) (k 3))) (eq (.call n.num_Put [(k (-5))]) (.c (.str [45, 53])))) (eq (.call n.num_Span [(.c (.str [120, 45, 49, 50, 121])), (k 1)]) (k 3))))]) .ret))))⟩
def b.num_Get : BF := ⟨1, true, .scal, [.t 2, .t 3], (.seq (.reg [] 1 []) (.seq (.reg [] 49 [(5, (xt (.call n.strings_CutPrefix [(x 0), (.c (.str [45]))]) 1)), (4, (xt (.call n.strings_CutPrefix [(x 0), (.c (.str [45]))]) 0))]) (.seq (.ife [] 48 [] (.or (.or (eq (x 4) (.c (.str []))) (ne (.call n.strings_Trim [(x 4), (.c (.str [48, 49, 50, 51, 52, 53, 54, 55, 56, 57]))]) (.c (.str [])))) (.and (eq (ix (x 4) (k 0)) (kc 48)) (ne (x 0) (.c (.str [48]))))) (.seq (.reg [] 12 [(3, (k 2)), (2, (k 0))]) .ret) .skip) (.seq (.reg [] 112 [(6, (.c (.int .u64 9223372036854775807)))]) (.seq (.ife [] 112 [] (x 5) (.reg [] 112 [(6, (add (x 6) (.c (.int .u64 1))))]) .skip) (.seq (.reg [] 240 [(7, (.c (.int .u64 0)))]) (.seq (.seq (.reg [.eff [] 224 (some 36) (.e (.s2b (.t 0))) [(x 4)]] 481036337376 [(38, (k 0)), (37, (len (x 36)))]) (.block 0 (.loop (.seq (.ife [] 481036337376 [] (lt (x 38) (x 37)) .skip (.exit 0)) (.seq (.block 1 (.seq (.reg [] 481036337888 [(9, (ld (ia 1 (x 36) (x 38))))]) (.seq (.reg [] 481036338400 [(10, (.p (.conv .u64 (.t 0)) [(sub (x 9) (kc 48))]))]) (.seq (.ife [] 481036338400 [] (gt (x 7) (bn .quo (sub (x 6) (x 10)) (.c (.int .u64 10)))) (.seq (.reg [] 12 [(3, (k 3)), (2, (k 0))]) .ret) .skip) (.reg [] 481036337376 [(7, (add (bn .mul (.c (.int .u64 10)) (x 7)) (x 10)))]))))) (.reg [] 481036337376 [(38, (add (x 38) (k 1)))])))))) (.seq (.ife [] 128 [] (x 5) (.seq (.reg [] 12 [(3, (k 0)), (2, (.p (.conv .i64 (.t 0)) [(.p (.un .neg (.t 0)) [(x 7)])]))]) .ret) .skip) (.seq (.reg [] 12 [(3, (k 0)), (2, (.p (.conv .i64 (.t 0)) [(x 7)]))]) .ret)))))))))⟩
def b.ref05_Get : BF := ⟨1, true, .scal, [.t 2, .t 3], (.seq (.reg [] 1 []) (.seq (.reg [] 49 [(5, (x 0)), (4, (k 1))]) (.seq (.ife [] 49 [] (.and (gt (sln (x 0)) (k 0)) (eq (ix (x 0) (k 0)) (kc 45))) (.reg [] 49 [(5, (.p (.sls (.t 0) (some (.t 1)) none) [(x 0), (k 1)])), (4, (k (-1)))]) .skip) (.seq (.ife [] 48 [] (.or (.or (eq (sln (x 5)) (k 0)) (ne (.call n.ref05_Span [(x 0), (k 0)]) (sln (x 0)))) (.and (eq (ix (x 5) (k 0)) (kc 48)) (.or (gt (sln (x 5)) (k 1)) (lt (x 4) (k 0))))) (.seq (.reg [] 12 [(3, (k 2)), (2, (k 0))]) .ret) .skip) (.seq (.reg [] 112 [(6, (k 0))]) (.seq (.seq (.reg [] 240 [(7, (k 0))]) (.block 0 (.loop (.seq (.ife [] 240 [] (lt (x 7) (sln (x 5))) .skip (.exit 0)) (.seq (.block 1 (.seq (.reg [] 496 [(8, (bn .mul (x 4) (sub (.p (.conv .i64 (.t 0)) [(ix (x 5) (x 7))]) (k 48))))]) (.seq (.ife [] 496 [] (.or (.and (gt (x 4) (k 0)) (gt (x 6) (bn .quo (sub (k 9223372036854775807) (x 8)) (k 10)))) (.and (lt (x 4) (k 0)) (lt (x 6) (bn .quo (sub (k (-9223372036854775808)) (x 8)) (k 10))))) (.seq (.reg [] 12 [(3, (k 3)), (2, (k 0))]) .ret) .skip) (.reg [] 240 [(6, (add (bn .mul (k 10) (x 6)) (x 8)))])))) (.reg [] 240 [(7, (add (x 7) (k 1)))])))))) (.seq (.reg [] 12 [(3, (k 0)), (2, (x 6))]) .ret)))))))⟩
def b.num_Put : BF := ⟨1, true, .froz, [.t 2], (.seq (.reg [] 1 []) (.seq (.reg [] 4 [(2, (.call n.strconv_Itoa [(x 0)]))]) .ret))⟩
def b.ref05_Put : BF := ⟨1, true, .froz, [.t 2], (.seq (.reg [] 1 []) (.seq (.reg [] 9 [(3, (.c (.str [])))]) (.seq (.seq (.reg [] 25 [(4, (x 0))]) (.block 0 (.loop (.seq (.block 1 (.seq (.reg [] 57 [(5, (bn .rem (x 4) (k 10)))]) (.seq (.ife [] 57 [] (lt (x 5) (k 0)) (.reg [] 57 [(5, (.p (.un .neg (.t 0)) [(x 5)]))]) .skip) (.seq (.reg [.eff [] 25 (some 18) (one 1 true [(.int .u8 0)]) [(.p (.conv .u8 (.t 0)) [(add (k 48) (x 5))])]] 25 [(3, (add (.r (.b2s (.t 0)) [(x 18)]) (x 3)))]) (.ife [] 25 [] (eq (bn .quo (x 4) (k 10)) (k 0)) (.exit 0) .skip))))) (.reg [] 25 [(4, (bn .quo (x 4) (k 10)))]))))) (.seq (.ife [] 8 [] (lt (x 0) (k 0)) (.seq (.reg [] 4 [(2, (add (.c (.str [45])) (x 3)))]) .ret) .skip) (.seq (.reg [] 4 [(2, (x 3))]) .ret)))))⟩
def b.num_Span : BF := ⟨2, true, .scal, [.t 4], (.seq (.reg [] 3 []) (.seq (.ife [] 3 [] (.or (lt (x 1) (k 0)) (ge (x 1) (sln (x 0)))) (.seq (.reg [] 16 [(4, (k 0))]) .ret) .skip) (.seq (.reg [] 32 [(5, (.p (.sls (.t 0) (some (.t 1)) none) [(x 0), (x 1)]))]) (.seq (.reg [] 96 [(6, (.call n.strings_TrimPrefix [(x 5), (.c (.str [45]))]))]) (.seq (.reg [] 16 [(4, (sub (sln (x 5)) (sln (.call n.strings_TrimLeft [(x 6), (.c (.str [48, 49, 50, 51, 52, 53, 54, 55, 56, 57]))]))))]) .ret)))))⟩
def b.ref05_Span : BF := ⟨2, true, .scal, [.t 4], (.seq (.reg [] 3 []) (.seq (.ife [] 3 [] (.or (lt (x 1) (k 0)) (ge (x 1) (sln (x 0)))) (.seq (.reg [] 16 [(4, (k 0))]) .ret) .skip) (.seq (.reg [] 35 [(5, (k 0))]) (.seq (.ife [] 35 [] (eq (ix (x 0) (x 1)) (kc 45)) (.reg [] 35 [(5, (k 1))]) .skip) (.seq (.block 0 (.loop (.seq (.ife [] 35 [] (.and (.and (lt (add (x 1) (x 5)) (sln (x 0))) (ge (ix (x 0) (add (x 1) (x 5))) (kc 48))) (le (ix (x 0) (add (x 1) (x 5))) (kc 57))) .skip (.exit 0)) (.block 1 (.reg [] 35 [(5, (add (x 5) (k 1)))]))))) (.seq (.reg [] 16 [(4, (x 5))]) .ret))))))⟩
def b.strings_CutPrefix : BF := ⟨2, true, .scal, [.t 4, .t 5], (.seq (.reg [] 3 []) (.seq (.reg [] 48 [(5, (xt (.call n.internal_stringslite_CutPrefix [(x 0), (x 1)]) 1)), (4, (xt (.call n.internal_stringslite_CutPrefix [(x 0), (x 1)]) 0))]) .ret))⟩
def b.strings_Trim : BF := ⟨2, true, .scal, [.t 4], (.seq (.reg [] 3 []) (.seq (.ife [] 3 [] (.or (eq (x 0) (.c (.str []))) (eq (x 1) (.c (.str [])))) (.seq (.reg [] 16 [(4, (x 0))]) .ret) .skip) (.seq (.ife [] 3 [] (.and (eq (sln (x 1)) (k 1)) (lt (ix (x 1) (k 0)) (kc 128))) (.seq (.reg [] 16 [(4, (.call n.strings_trimLeftByte [(.call n.strings_trimRightByte [(x 0), (ix (x 1) (k 0))]), (ix (x 1) (k 0))]))]) .ret) .skip) (.seq (.seq (.reg [.eff [(33, (xt (.call n.strings_makeASCIISet [(x 1)]) 1)), (32, (xt (.call n.strings_makeASCIISet [(x 1)]) 0))] 12884901891 (some 5) (alo 256 true (.agg (List.replicate 256 (.bool false)))) [], .eff [] 8589934627 none (sto 256) [(x 5), (x 32)]] 99 [(6, (x 33))]) (.ife [] 35 [] (x 6) (.seq (.reg [] 16 [(4, (.call n.strings_trimLeftASCII [(.call n.strings_trimRightASCII [(x 0), (x 5)]), (x 5)]))]) .ret) .skip)) (.seq (.reg [] 16 [(4, (.call n.strings_trimLeftUnicode [(.call n.strings_trimRightUnicode [(x 0), (x 1)]), (x 1)]))]) .ret)))))⟩
def b.strings_TrimPrefix : BF := ⟨2, true, .scal, [.t 4], (.seq (.reg [] 3 []) (.seq (.reg [] 16 [(4, (.call n.internal_stringslite_TrimPrefix [(x 0), (x 1)]))]) .ret))⟩
def b.strings_TrimLeft : BF := ⟨2, true, .scal, [.t 4], (.seq (.reg [] 3 []) (.seq (.ife [] 3 [] (.or (eq (x 0) (.c (.str []))) (eq (x 1) (.c (.str [])))) (.seq (.reg [] 16 [(4, (x 0))]) .ret) .skip) (.seq (.ife [] 3 [] (.and (eq (sln (x 1)) (k 1)) (lt (ix (x 1) (k 0)) (kc 128))) (.seq (.reg [] 16 [(4, (.call n.strings_trimLeftByte [(x 0), (ix (x 1) (k 0))]))]) .ret) .skip) (.seq (.seq (.reg [.eff [(30, (xt (.call n.strings_makeASCIISet [(x 1)]) 1)), (29, (xt (.call n.strings_makeASCIISet [(x 1)]) 0))] 1610612739 (some 5) (alo 256 true (.agg (List.replicate 256 (.bool false)))) [], .eff [] 1073741859 none (sto 256) [(x 5), (x 29)]] 99 [(6, (x 30))]) (.ife [] 35 [] (x 6) (.seq (.reg [] 16 [(4, (.call n.strings_trimLeftASCII [(x 0), (x 5)]))]) .ret) .skip)) (.seq (.reg [] 16 [(4, (.call n.strings_trimLeftUnicode [(x 0), (x 1)]))]) .ret)))))⟩
def b.internal_stringslite_CutPrefix : BF := ⟨2, true, .scal, [.t 4, .t 5], (.seq (.reg [] 3 []) (.seq (.ife [] 3 [] (nt (.call n.internal_stringslite_HasPrefix [(x 0), (x 1)])) (.seq (.reg [] 48 [(5, (kb false)), (4, (x 0))]) .ret) .skip) (.seq (.reg [] 48 [(5, (kb true)), (4, (.p (.sls (.t 0) (some (.t 1)) none) [(x 0), (sln (x 1))]))]) .ret)))⟩
def b.strings_trimLeftByte : BF := ⟨2, true, .froz, [.t 4], (.seq (.reg [] 3 []) (.seq (.block 0 (.loop (.seq (.ife [] 3 [] (.and (gt (sln (x 0)) (k 0)) (eq (ix (x 0) (k 0)) (x 1))) .skip (.exit 0)) (.block 1 (.reg [] 3 [(0, (.p (.sls (.t 0) (some (.t 1)) none) [(x 0), (k 1)]))]))))) (.seq (.reg [] 16 [(4, (x 0))]) .ret)))⟩
def b.strings_trimRightByte : BF := ⟨2, true, .froz, [.t 4], (.seq (.reg [] 3 []) (.seq (.block 0 (.loop (.seq (.ife [] 3 [] (.and (gt (sln (x 0)) (k 0)) (eq (ix (x 0) (sub (sln (x 0)) (k 1))) (x 1))) .skip (.exit 0)) (.block 1 (.reg [] 3 [(0, (.p (.sls (.t 0) none (some (.t 1))) [(x 0), (sub (sln (x 0)) (k 1))]))]))))) (.seq (.reg [] 16 [(4, (x 0))]) .ret)))⟩
def b.strings_makeASCIISet : BF := ⟨1, true, .froz, [.cell 2 ⟨true, 256⟩, .t 3], (.seq (.reg [.eff [] 1 (some 2) (alo 256 true (.agg (List.replicate 256 (.bool false)))) []] 5 []) (.seq (.seq (.reg [] 21 [(4, (k 0))]) (.block 0 (.loop (.seq (.ife [] 21 [] (lt (x 4) (sln (x 0))) .skip (.exit 0)) (.seq (.block 1 (.seq (.reg [] 53 [(5, (ix (x 0) (x 4)))]) (.seq (.ife [] 53 [] (ge (x 5) (kc 128)) (.seq (.reg [.eff [] 4 none (sto 256) [(x 2), (ldn 256 (x 2))]] 12 [(3, (kb false))]) .ret) .skip) (.reg [.eff [] 21 none (sto 1) [(.p (.iar 256 1 (.t 0) (.t 1)) [(x 2), (x 5)]), (kb true)]] 21 [])))) (.reg [] 21 [(4, (add (x 4) (k 1)))])))))) (.seq (.reg [.eff [] 4 none (sto 256) [(x 2), (ldn 256 (x 2))]] 12 [(3, (kb true))]) .ret)))⟩
def b.strings_trimLeftASCII : BF := ⟨2, false, .froz, [.t 4], (.seq (.reg [] 3 []) (.seq (.block 0 (.loop (.seq (.ife [] 3 [] (gt (sln (x 0)) (k 0)) .skip (.exit 0)) (.block 1 (.seq (.ife [] 3 [] (nt (.call n.strings_asciiSet__contains [(x 1), (ix (x 0) (k 0))])) (.exit 0) .skip) (.reg [] 3 [(0, (.p (.sls (.t 0) (some (.t 1)) none) [(x 0), (k 1)]))])))))) (.seq (.reg [] 16 [(4, (x 0))]) .ret)))⟩
def b.strings_trimRightASCII : BF := ⟨2, false, .froz, [.t 4], (.seq (.reg [] 3 []) (.seq (.block 0 (.loop (.seq (.ife [] 3 [] (gt (sln (x 0)) (k 0)) .skip (.exit 0)) (.block 1 (.seq (.ife [] 3 [] (nt (.call n.strings_asciiSet__contains [(x 1), (ix (x 0) (sub (sln (x 0)) (k 1)))])) (.exit 0) .skip) (.reg [] 3 [(0, (.p (.sls (.t 0) none (some (.t 1))) [(x 0), (sub (sln (x 0)) (k 1))]))])))))) (.seq (.reg [] 16 [(4, (x 0))]) .ret)))⟩
def b.strings_trimLeftUnicode : BF := ⟨2, true, .froz, [.t 4], (.seq (.reg [] 3 []) (.seq (.block 0 (.loop (.seq (.ife [] 3 [] (gt (sln (x 0)) (k 0)) .skip (.exit 0)) (.block 1 (.seq (.reg [] 99 [(6, (xt (.call 30 [(x 0)]) 1)), (5, (xt (.call 30 [(x 0)]) 0))]) (.seq (.ife [] 67 [] (nt (.call n.strings_ContainsRune [(x 1), (x 5)])) (.exit 0) .skip) (.reg [] 3 [(0, (.p (.sls (.t 0) (some (.t 1)) none) [(x 0), (x 6)]))]))))))) (.seq (.reg [] 16 [(4, (x 0))]) .ret)))⟩
def b.strings_trimRightUnicode : BF := ⟨2, true, .froz, [.t 4], (.seq (.reg [] 3 []) (.seq (.block 0 (.loop (.seq (.ife [] 3 [] (gt (sln (x 0)) (k 0)) .skip (.exit 0)) (.block 1 (.seq (.reg [] 99 [(6, (k 1)), (5, (.p (.conv .i32 (.t 0)) [(ix (x 0) (sub (sln (x 0)) (k 1)))]))]) (.seq (.ife [] 99 [] (ge (x 5) (.c (.int .i32 128))) (.reg [] 99 [(6, (xt (.call 32 [(x 0)]) 1)), (5, (xt (.call 32 [(x 0)]) 0))]) .skip) (.seq (.ife [] 67 [] (nt (.call n.strings_ContainsRune [(x 1), (x 5)])) (.exit 0) .skip) (.reg [] 3 [(0, (.p (.sls (.t 0) none (some (.t 1))) [(x 0), (sub (sln (x 0)) (x 6))]))])))))))) (.seq (.reg [] 16 [(4, (x 0))]) .ret)))⟩
def b.internal_stringslite_TrimPrefix : BF := ⟨2, true, .scal, [.t 4], (.seq (.reg [] 3 []) (.seq (.ife [] 3 [] (.call n.internal_stringslite_HasPrefix [(x 0), (x 1)]) (.seq (.reg [] 16 [(4, (.p (.sls (.t 0) (some (.t 1)) none) [(x 0), (sln (x 1))]))]) .ret) .skip) (.seq (.reg [] 16 [(4, (x 0))]) .ret)))⟩
def b.internal_stringslite_HasPrefix : BF := ⟨2, true, .scal, [.t 4], (.seq (.reg [] 3 []) (.seq (.reg [] 16 [(4, (.and (ge (sln (x 0)) (sln (x 1))) (eq (.p (.sls (.t 0) none (some (.t 1))) [(x 0), (sln (x 1))]) (x 1))))]) .ret))⟩
def b.strings_asciiSet__contains : BF := ⟨2, false, .froz, [.t 4], (.seq (.reg [] 3 []) (.seq (.reg [] 16 [(4, (ld (.p (.iar 256 1 (.t 0) (.t 1)) [(nk (x 0)), (x 1)])))]) .ret))⟩
def b.strings_ContainsRune : BF := ⟨2, true, .froz, [.t 4], (.seq (.reg [] 3 []) (.seq (.reg [] 16 [(4, (ge (.call 35 [(x 0), (x 1)]) (k 0)))]) .ret))⟩
def b.strings_IndexByte : BF := ⟨2, true, .froz, [.t 4], (.seq (.reg [] 3 []) (.seq (.reg [] 16 [(4, (.call 50 [(x 0), (x 1)]))]) .ret))⟩
def b.math_bits_Len64 : BF := ⟨1, true, .froz, [.t 2], (.seq (.reg [] 5 [(2, (k 0))]) (.seq (.ife [] 5 [] (ge (x 0) (.c (.int .u64 4294967296))) (.seq (.reg [] 1 [(0, (bn .shr (x 0) (.c (.int .u64 32))))]) (.reg [] 5 [(2, (k 32))])) .skip) (.seq (.ife [] 5 [] (ge (x 0) (.c (.int .u64 65536))) (.seq (.reg [] 5 [(0, (bn .shr (x 0) (.c (.int .u64 16))))]) (.reg [] 5 [(2, (add (x 2) (k 16)))])) .skip) (.seq (.ife [] 5 [] (ge (x 0) (.c (.int .u64 256))) (.seq (.reg [] 5 [(0, (bn .shr (x 0) (.c (.int .u64 8))))]) (.reg [] 5 [(2, (add (x 2) (k 8)))])) .skip) (.seq (.reg [] 4 [(2, (add (x 2) (.p (.conv .i64 (.t 0)) [(ix (.c (.str [0, 1, 2, 2, 3, 3, 3, 3, 4, 4, 4, 4, 4, 4, 4, 4, 5, 5, 5, 5, 5, 5, 5, 5, 5, 5, 5, 5, 5, 5, 5, 5, 6, 6, 6, 6, 6, 6, 6, 6, 6, 6, 6, 6, 6, 6, 6, 6, 6, 6, 6, 6, 6, 6, 6, 6, 6, 6, 6, 6, 6, 6, 6, 6, 7, 7, 7, 7, 7, 7, 7, 7, 7, 7, 7, 7, 7, 7, 7, 7, 7, 7, 7, 7, 7, 7, 7, 7, 7, 7, 7, 7, 7, 7, 7, 7, 7, 7, 7, 7, 7, 7, 7, 7, 7, 7, 7, 7, 7, 7, 7, 7, 7, 7, 7, 7, 7, 7, 7, 7, 7, 7, 7, 7, 7, 7, 7, 7, 8, 8, 8, 8, 8, 8, 8, 8, 8, 8, 8, 8, 8, 8, 8, 8, 8, 8, 8, 8, 8, 8, 8, 8, 8, 8, 8, 8, 8, 8, 8, 8, 8, 8, 8, 8, 8, 8, 8, 8, 8, 8, 8, 8, 8, 8, 8, 8, 8, 8, 8, 8, 8, 8, 8, 8, 8, 8, 8, 8, 8, 8, 8, 8, 8, 8, 8, 8, 8, 8, 8, 8, 8, 8, 8, 8, 8, 8, 8, 8, 8, 8, 8, 8, 8, 8, 8, 8, 8, 8, 8, 8, 8, 8, 8, 8, 8, 8, 8, 8, 8, 8, 8, 8, 8, 8, 8, 8, 8, 8, 8, 8, 8, 8, 8, 8, 8, 8, 8, 8, 8, 8, 8, 8, 8, 8, 8, 8])) (.p (.conv .u8 (.t 0)) [(x 0)]))])))]) .ret)))))⟩
def b.math_bits_TrailingZeros : BF := ⟨1, true, .froz, [.t 2], (.seq (.ife [] 1 [] (kb false) (.seq (.reg [] 4 [(2, (.call n.math_bits_TrailingZeros32 [(.p (.conv .u32 (.t 0)) [(x 0)])]))]) .ret) .skip) (.seq (.reg [] 4 [(2, (.call n.math_bits_TrailingZeros64 [(x 0)]))]) .ret))⟩
def b.math_bits_TrailingZeros32 : BF := ⟨1, true, .froz, [.t 2], (.seq (.reg [] 1 []) (.seq (.ife [] 0 [] (eq (x 0) (.c (.int .u32 0))) (.seq (.reg [] 4 [(2, (k 32))]) .ret) .skip) (.seq .stuck .ret)))⟩
def b.math_bits_TrailingZeros64 : BF := ⟨1, true, .froz, [.t 2], (.seq (.reg [] 1 []) (.seq (.ife [] 0 [] (eq (x 0) (.c (.int .u64 0))) (.seq (.reg [] 4 [(2, (k 64))]) .ret) .skip) (.seq .stuck .ret)))⟩
def effs : List Nat := []
end Go.AM

set_option linter.unusedVariables false
namespace Go.AM
open Go.Proofs
theorem r.law05_NumTells : rowOk Tryd.prog effs n.law05_NumTells false b.law05_NumTells = true := by kernel_rfl
theorem r.law05_NumBack : rowOk Tryd.prog effs n.law05_NumBack false b.law05_NumBack = true := by kernel_rfl
theorem r.law05_NumSpans : rowOk Tryd.prog effs n.law05_NumSpans false b.law05_NumSpans = true := by kernel_rfl
theorem r.law05_awake : rowOk Tryd.prog effs n.law05_awake false b.law05_awake = true := by kernel_rfl
theorem r.num_Get : rowOk Tryd.prog effs n.num_Get false b.num_Get = true := by kernel_rfl
theorem r.ref05_Get : rowOk Tryd.prog effs n.ref05_Get false b.ref05_Get = true := by kernel_rfl
theorem r.num_Put : rowOk Tryd.prog effs n.num_Put false b.num_Put = true := by kernel_rfl
theorem r.ref05_Put : rowOk Tryd.prog effs n.ref05_Put false b.ref05_Put = true := by kernel_rfl
theorem r.num_Span : rowOk Tryd.prog effs n.num_Span false b.num_Span = true := by kernel_rfl
theorem r.ref05_Span : rowOk Tryd.prog effs n.ref05_Span false b.ref05_Span = true := by kernel_rfl
theorem r.strings_CutPrefix : rowOk Tryd.prog effs n.strings_CutPrefix false b.strings_CutPrefix = true := by kernel_rfl
theorem r.strings_Trim : rowOk Tryd.prog effs n.strings_Trim false b.strings_Trim = true := by kernel_rfl
theorem cc.strconv_Itoa : canCall Tryd.prog n.strconv_Itoa = true := by kernel_rfl
theorem r.strings_TrimPrefix : rowOk Tryd.prog effs n.strings_TrimPrefix false b.strings_TrimPrefix = true := by kernel_rfl
theorem r.strings_TrimLeft : rowOk Tryd.prog effs n.strings_TrimLeft false b.strings_TrimLeft = true := by kernel_rfl
theorem r.internal_stringslite_CutPrefix : rowOk Tryd.prog effs n.internal_stringslite_CutPrefix false b.internal_stringslite_CutPrefix = true := by kernel_rfl
theorem r.strings_trimLeftByte : rowOk Tryd.prog effs n.strings_trimLeftByte false b.strings_trimLeftByte = true := by kernel_rfl
theorem r.strings_trimRightByte : rowOk Tryd.prog effs n.strings_trimRightByte false b.strings_trimRightByte = true := by kernel_rfl
theorem r.strings_makeASCIISet : rowOk Tryd.prog effs n.strings_makeASCIISet false b.strings_makeASCIISet = true := by kernel_rfl
theorem r.strings_trimLeftASCII : rowOk Tryd.prog effs n.strings_trimLeftASCII false b.strings_trimLeftASCII = true := by kernel_rfl
theorem r.strings_trimRightASCII : rowOk Tryd.prog effs n.strings_trimRightASCII false b.strings_trimRightASCII = true := by kernel_rfl
theorem r.strings_trimLeftUnicode : rowOk Tryd.prog effs n.strings_trimLeftUnicode false b.strings_trimLeftUnicode = true := by kernel_rfl
theorem r.strings_trimRightUnicode : rowOk Tryd.prog effs n.strings_trimRightUnicode false b.strings_trimRightUnicode = true := by kernel_rfl
theorem r.internal_stringslite_TrimPrefix : rowOk Tryd.prog effs n.internal_stringslite_TrimPrefix false b.internal_stringslite_TrimPrefix = true := by kernel_rfl
theorem r.internal_stringslite_HasPrefix : rowOk Tryd.prog effs n.internal_stringslite_HasPrefix false b.internal_stringslite_HasPrefix = true := by kernel_rfl
theorem r.strings_asciiSet__contains : rowOk Tryd.prog effs n.strings_asciiSet__contains false b.strings_asciiSet__contains = true := by kernel_rfl
theorem r.strings_ContainsRune : rowOk Tryd.prog effs n.strings_ContainsRune false b.strings_ContainsRune = true := by kernel_rfl
theorem r.strings_IndexByte : rowOk Tryd.prog effs n.strings_IndexByte false b.strings_IndexByte = true := by kernel_rfl
theorem r.math_bits_Len64 : rowOk Tryd.prog effs n.math_bits_Len64 false b.math_bits_Len64 = true := by kernel_rfl
theorem r.math_bits_TrailingZeros : rowOk Tryd.prog effs n.math_bits_TrailingZeros false b.math_bits_TrailingZeros = true := by kernel_rfl
theorem r.math_bits_TrailingZeros32 : rowOk Tryd.prog effs n.math_bits_TrailingZeros32 false b.math_bits_TrailingZeros32 = true := by kernel_rfl
theorem r.math_bits_TrailingZeros64 : rowOk Tryd.prog effs n.math_bits_TrailingZeros64 false b.math_bits_TrailingZeros64 = true := by kernel_rfl
def tab : List (Nat × Row) := [(n.law05_NumTells, .fn false b.law05_NumTells), (n.law05_NumBack, .fn false b.law05_NumBack), (n.law05_NumSpans, .fn false b.law05_NumSpans), (n.law05_awake, .fn false b.law05_awake), (n.num_Get, .fn false b.num_Get), (n.ref05_Get, .fn false b.ref05_Get), (n.num_Put, .fn false b.num_Put), (n.ref05_Put, .fn false b.ref05_Put), (n.num_Span, .fn false b.num_Span), (n.ref05_Span, .fn false b.ref05_Span), (n.strings_CutPrefix, .fn false b.strings_CutPrefix), (n.strings_Trim, .fn false b.strings_Trim), (n.strconv_Itoa, .ext gItoa), (n.strings_TrimPrefix, .fn false b.strings_TrimPrefix), (n.strings_TrimLeft, .fn false b.strings_TrimLeft), (n.internal_stringslite_CutPrefix, .fn false b.internal_stringslite_CutPrefix), (n.strings_trimLeftByte, .fn false b.strings_trimLeftByte), (n.strings_trimRightByte, .fn false b.strings_trimRightByte), (n.strings_makeASCIISet, .fn false b.strings_makeASCIISet), (n.strings_trimLeftASCII, .fn false b.strings_trimLeftASCII), (n.strings_trimRightASCII, .fn false b.strings_trimRightASCII), (n.strings_trimLeftUnicode, .fn false b.strings_trimLeftUnicode), (n.strings_trimRightUnicode, .fn false b.strings_trimRightUnicode), (n.internal_stringslite_TrimPrefix, .fn false b.internal_stringslite_TrimPrefix), (n.internal_stringslite_HasPrefix, .fn false b.internal_stringslite_HasPrefix), (n.strings_asciiSet__contains, .fn false b.strings_asciiSet__contains), (n.strings_ContainsRune, .fn false b.strings_ContainsRune), (n.strings_IndexByte, .fn false b.strings_IndexByte), (n.math_bits_Len64, .fn false b.math_bits_Len64), (n.math_bits_TrailingZeros, .fn false b.math_bits_TrailingZeros), (n.math_bits_TrailingZeros32, .fn false b.math_bits_TrailingZeros32), (n.math_bits_TrailingZeros64, .fn false b.math_bits_TrailingZeros64)]
theorem tabOk : AllR Tryd.prog effs tab := .cons r.law05_NumTells (.cons r.law05_NumBack (.cons r.law05_NumSpans (.cons r.law05_awake (.cons r.num_Get (.cons r.ref05_Get (.cons r.num_Put (.cons r.ref05_Put (.cons r.num_Span (.cons r.ref05_Span (.cons r.strings_CutPrefix (.cons r.strings_Trim (.cons ⟨cc.strconv_Itoa, itoa_ok⟩ (.cons r.strings_TrimPrefix (.cons r.strings_TrimLeft (.cons r.internal_stringslite_CutPrefix (.cons r.strings_trimLeftByte (.cons r.strings_trimRightByte (.cons r.strings_makeASCIISet (.cons r.strings_trimLeftASCII (.cons r.strings_trimRightASCII (.cons r.strings_trimLeftUnicode (.cons r.strings_trimRightUnicode (.cons r.internal_stringslite_TrimPrefix (.cons r.internal_stringslite_HasPrefix (.cons r.strings_asciiSet__contains (.cons r.strings_ContainsRune (.cons r.strings_IndexByte (.cons r.math_bits_Len64 (.cons r.math_bits_TrailingZeros (.cons r.math_bits_TrailingZeros32 (.cons r.math_bits_TrailingZeros64 (.nil))))))))))))))))))))))))))))))))
noncomputable abbrev T0 : Nat → Option Fn := tblOf Tryd.prog tab
theorem T0ok : TblOK Tryd.prog T0 := tblOf_ok tabOk
end Go.AM

