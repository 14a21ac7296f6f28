/- Part A3 of the proof. -/
import Derived.Test.YthhgiappgpeloaaDoorA2
import Derived.Test.YthhgiappgpeloaaDoorRows
import Derived.Deep.Slices
import Derived.ChangeArms
import Derived.WideShapes
/- From the reading of an argument to what the machine takes. -/
set_option linter.unusedVariables false
set_option linter.unusedSimpArgs false
namespace Go.AM
open Go.RowKit Go.Deep
open Go.Proofs.YthhgiappgpeloaaDoor.Rows (uptoBulk uptoBulkAll)
def wsum {α : Type} (wt : α → Nat) : List α → Nat
  | [] => 0
  | x :: r => wt x + wsum wt r
def mu0 : Mu := fun _ => none
def Was (W : World) (b : Nat) : Prop := b < W.heap.size
/-- How values of a type are told to the machine. -/
structure Enc (α : Type) where
  enc : α → V
  sz : Nat
  ok : ∀ y, (enc y).cells.length = sz ∧ (enc y).cells.all V.dsc = true
def Enc.R {α : Type} (E : Enc α) (W : World) (y : α) (cs : List Value) : Prop := VRels mu0 (Was W) W (E.enc y).cells cs
def Opens {α : Type} (P : Program) (W : World) (E : Enc α) (t : TypeId) (wf : α → Prop) (wt : α → Nat) : Prop :=
  ∀ (H : Type) (enc : TypeId × Value → H) (spare : Nat → Bool) (held : Bool) (fuel : Nat) (cs : List Value) (x : DataW H × List MemPlace),
    DataW.trod enc P W 0 spare held fuel t cs = some x → ∃ y, E.R W y cs ∧ wf y ∧ wt y ≤ uptoBulk x.1
variable {P : Program} {W : World}
def eInt (k : IntKind) : Enc Int := ⟨.int k, 1, fun _ => ⟨rfl, rfl⟩⟩
def eBool : Enc Bool := ⟨.bool, 1, fun _ => ⟨rfl, rfl⟩⟩
def eStr : Enc (List UInt8) := ⟨.str, 1, fun _ => ⟨rfl, rfl⟩⟩
def eList {α : Type} (E : Enc α) : Enc (List α) := ⟨fun xs => .lst (xs.map E.enc), 1, fun _ => ⟨rfl, rfl⟩⟩
theorem opens_int {t : TypeId} {k : IntKind} (ht : P.underlying t = some (.int k)) : Opens P W (eInt k) t (fun a => (Lit.int k a).wf = true) (fun _ => 1) := by
  intro H enc spare held fuel cs x h
  obtain ⟨n, rfl, rfl, hw⟩ := DataW.trod_int ht h
  exact ⟨n, .cons (.int _ _) .nil, hw, by simp [uptoBulk]⟩
theorem opens_bool {t : TypeId} (ht : P.underlying t = some .bool) : Opens P W eBool t (fun _ => True) (fun _ => 1) := by
  intro H enc spare held fuel cs x h
  obtain ⟨n, rfl, rfl⟩ := DataW.trod_bool ht h
  exact ⟨n, .cons (.bool _) .nil, trivial, by simp [uptoBulk]⟩
theorem opens_string {t : TypeId} (ht : P.underlying t = some .string) : Opens P W eStr t (fun _ => True) (fun s => s.length + 1) := by
  intro H enc spare held fuel cs x h
  obtain ⟨n, rfl, rfl, hw⟩ := DataW.trod_string ht h
  exact ⟨n.data.toList, .cons (.str n) .nil, trivial, by simp only [uptoBulk]; exact Nat.le_refl _⟩
theorem bulkAll_map {H : Type} (D : Nat → DataW H) : ∀ n, uptoBulkAll ((List.range n).map D) = wsum (fun i => uptoBulk (D i)) (List.range n) := by
  intro n
  generalize List.range n = l
  induction l with
  | nil => rfl
  | cons a l ih => simp only [List.map_cons, uptoBulkAll, wsum, ih]
theorem opens_slice {α : Type} {E : Enc α} {t e : TypeId} {wf : α → Prop} {wt : α → Nat} (ht : P.underlying t = some (.slice e)) (hsz : P.cellsOf e = E.sz) (hpos : 0 < E.sz) (h : Opens P W E e wf wt) [Inhabited α] :
    Opens P W (eList E) t (fun xs => ∀ x ∈ xs, wf x) (fun xs => wsum wt xs + 1) := by
  intro H enc spare held fuel cs x hx
  rcases open_slice ht hx with ⟨rfl, rfl⟩ | ⟨a, len, cap, m, n, D, Pl, rfl, _, hl, hm, hmm, rfl, hall⟩
  · exact ⟨[], .cons (.lst0 _ _) .nil, by simp, by simp [wsum, uptoBulk]⟩
  · have hlm : len ≤ m := by rw [hmm]; split <;> omega
    have h1 : ∀ i, i < len → ∃ y : α, ∃ c, W.cells? 0 (a.add (i * P.cellsOf e)) (P.cellsOf e) = some c ∧ E.R W y c ∧ wf y ∧ wt y ≤ uptoBulk (D i) := by
      intro i hi
      obtain ⟨c, hc, ht'⟩ := hall i (by omega)
      obtain ⟨y, h1, h2, h3⟩ := h H enc spare held n c _ ht'
      exact ⟨y, c, hc, h1, h2, h3⟩
    obtain ⟨f, hf⟩ := choose_lt h1
    let ys := (List.range len).map f
    have hyl : ys.length = len := by simp [ys]
    have hel : ∀ u ∈ ys.map E.enc, u.cells.length = E.sz := fun u hu => by
      obtain ⟨y, -, rfl⟩ := List.mem_map.1 hu
      exact (E.ok y).1
    refine ⟨ys, .cons ?_ .nil, ?_, ?_⟩
    · show VRel mu0 (Was W) W (.lst (ys.map E.enc)) _
      by_cases h0 : len = 0
      · subst h0
        have : ys = [] := List.eq_nil_of_length_eq_zero hyl
        rw [this]
        exact .lst0 _ _
      · have hcell : ∀ j u, ((ys.map E.enc).flatMap V.cells)[j]? = some u → ∃ z, W.cell? (a.add j) = some z ∧ VRel mu0 (Was W) W u z ∧ u.dsc = true := by
          intro j u hj
          obtain ⟨q, r, x, rfl, hr, hq, hu⟩ := flatMap_inv _ hel hj
          simp only [List.getElem?_map, Option.map_eq_some_iff] at hq
          obtain ⟨y, hy, rfl⟩ := hq
          have hql : q < len := by have := (List.getElem?_eq_some_iff.1 hy).1; omega
          have hyq : f q = y := by simpa [ys, hql] using hy
          subst hyq
          obtain ⟨c, hc, hR, -⟩ := hf q hql
          obtain ⟨_, hlen, hcl⟩ := World.cells?_some hc
          obtain ⟨z, hz, hrel⟩ := VRels.get? hR r u hu
          refine ⟨z, ?_, hrel, List.all_eq_true.1 (E.ok (f q)).2 u (List.mem_of_getElem? hu)⟩
          rw [hsz] at hcl
          rw [← hz, ← hcl r hr, Go.Deep.add_add]
        obtain ⟨ab, ao, asp⟩ := a
        have hblk : ∃ (c : Array Value) (e' : TypeId) (fz : Nat × Nat), W.heap[ab]? = some (.cells c e' fz) ∧ asp = none := by
          have h0' : 0 < ((ys.map E.enc).flatMap V.cells).length := by rw [flatMap_len _ hel, List.length_map, hyl]; exact Nat.mul_pos (by omega) hpos
          obtain ⟨z, hz, -, -⟩ := hcell 0 _ (List.getElem?_eq_getElem h0')
          have h00 : (⟨ab, ao, asp⟩ : Addr).add 0 = ⟨ab, ao, asp⟩ := by simp [Addr.add]
          rw [h00] at hz
          unfold World.cell? at hz
          simp only at hz
          split at hz
          · rename_i c e' fz hb
            refine ⟨c, e', fz, hb, ?_⟩
            cases asp with
            | none => rfl
            | some k => simp at hz
          · cases hz
        obtain ⟨c, e', fz, hb, rfl⟩ := hblk
        have hadd : ∀ j, (⟨ab, ao, none⟩ : Addr).add j = ⟨ab, ao + j, none⟩ := fun j => by unfold Addr.add; split <;> simp_all
        have hc : ∀ j z, W.cell? ((⟨ab, ao, none⟩ : Addr).add j) = some z → c[ao + j]? = some z := fun j z hj => by
          rw [hadd, cell_of hb] at hj; exact hj
        have := VRel.lst (μ := mu0) (S := Was W) (w := W) (ys.map E.enc) E.sz ab ao cap c e' fz (fun j => c.getD (ao + j) undef) (heap_lt hb) hb (by simpa [hyl] using hl) hel (fun j u hj => by
          obtain ⟨z, q1, q2, q3⟩ := hcell j u hj
          exact ⟨q3, by simp [hc j z q1]⟩) (fun j u hj => by
          obtain ⟨z, q1, q2, q3⟩ := hcell j u hj
          simpa [hc j z q1] using q2)
        simpa [hyl] using this
    · intro x hx
      obtain ⟨i, hi, rfl⟩ := List.mem_map.1 hx
      obtain ⟨_, _, _, h2, _⟩ := hf i (by simpa using hi)
      exact h2
    · simp only [uptoBulk]
      rw [bulkAll_map]
      have : ∀ l : List Nat, (∀ i ∈ l, i < len) → wsum wt (l.map f) ≤ wsum (fun i => uptoBulk (D i)) l := by
        intro l
        induction l with
        | nil => intro _; exact Nat.le_refl _
        | cons i l ih =>
          intro hl'
          simp only [List.map_cons, wsum]
          have := ih (fun j hj => hl' j (List.mem_cons_of_mem _ hj))
          obtain ⟨_, _, _, _, h3⟩ := hf i (hl' i List.mem_cons_self)
          omega
      have h9 := this (List.range len) (fun i hi => by simpa using hi)
      show wsum wt ((List.range len).map f) + 1 ≤ _
      omega
/-- The fields of a struct. -/
structure EncF (α : Type) where
  enc : α → List V
  sz : Nat
  ok : ∀ y, (enc y).length = sz ∧ (enc y).all V.dsc = true
def fOne {α : Type} (E : Enc α) : EncF α := ⟨fun y => (E.enc y).cells, E.sz, E.ok⟩
def fCons {α β : Type} (E : Enc α) (F : EncF β) : EncF (α × β) := ⟨fun y => (E.enc y.1).cells ++ F.enc y.2, E.sz + F.sz, fun y => ⟨by rw [List.length_append, (E.ok y.1).1, (F.ok y.2).1], by rw [List.all_append, (E.ok y.1).2, (F.ok y.2).2]; rfl⟩⟩
def eStruct {α β : Type} (F : EncF α) (g : β → α) : Enc β := ⟨fun y => .agg (F.enc (g y)), F.sz, fun y => F.ok (g y)⟩
def OpensF {α : Type} (P : Program) (W : World) (F : EncF α) (fs : List Field) (off : Nat) (wf : α → Prop) (wt : α → Nat) : Prop :=
  ∀ (H : Type) (enc : TypeId × Value → H) (spare : Nat → Bool) (held : Bool) (fuel : Nat) (cs : List Value) (xs : List (DataW H × List MemPlace)), cs.length = off + F.sz →
    (fs.mapM fun f => DataW.trod enc P W 0 spare held fuel f.type ((cs.drop f.offset).take (P.cellsOf f.type))) = some xs → ∃ y, VRels mu0 (Was W) W (F.enc y) (cs.drop off) ∧ wf y ∧ wt y ≤ uptoBulkAll (xs.map (·.1))
theorem opensF_one {α : Type} {E : Enc α} {f : Field} {wf : α → Prop} {wt : α → Nat} (off : Nat) (ho : f.offset = off) (hsz : P.cellsOf f.type = E.sz) (h : Opens P W E f.type wf wt) : OpensF P W (fOne E) [f] off wf wt := by
  intro H enc spare held fuel cs xs hl hx
  have hl' : cs.length = off + E.sz := hl
  simp only [List.mapM_cons, List.mapM_nil, Option.pure_def, Option.bind_eq_bind, Option.bind_eq_some_iff] at hx
  obtain ⟨x, hx, z, hz, hxs⟩ := hx
  cases hz
  cases hxs
  rw [ho, hsz, List.take_of_length_le (by rw [List.length_drop]; omega)] at hx
  obtain ⟨y, h1, h2, h3⟩ := h H enc spare held fuel _ x hx
  exact ⟨y, h1, h2, by simp only [List.map_cons, List.map_nil, uptoBulkAll]; omega⟩
theorem opensF_cons {α β : Type} {E : Enc α} {F : EncF β} {f : Field} {fs : List Field} {wf : α → Prop} {wt : α → Nat} {wf' : β → Prop} {wt' : β → Nat} (off : Nat) (ho : f.offset = off) (hsz : P.cellsOf f.type = E.sz) (h : Opens P W E f.type wf wt) (h' : OpensF P W F fs (off + E.sz) wf' wt') :
    OpensF P W (fCons E F) (f :: fs) off (fun x => wf x.1 ∧ wf' x.2) (fun x => wt x.1 + wt' x.2) := by
  intro H enc spare held fuel cs xs hl hx
  simp only [List.mapM_cons, Option.pure_def, Option.bind_eq_bind, Option.bind_eq_some_iff] at hx
  obtain ⟨x, hx, ys, hys, hxs⟩ := hx
  cases hxs
  have hl' : cs.length = off + (E.sz + F.sz) := hl
  rw [ho, hsz] at hx
  obtain ⟨y, h1, h2, h3⟩ := h H enc spare held fuel _ x hx
  obtain ⟨z, h4, h5, h6⟩ := h' H enc spare held fuel cs ys (by omega) hys
  refine ⟨(y, z), ?_, ⟨h2, h5⟩, by simp only [List.map_cons, uptoBulkAll]; omega⟩
  have := VRels.append h1 h4
  rwa [← List.drop_drop, List.take_append_drop] at this
theorem struct_parts {H : Type} {enc : TypeId × Value → H} {spare : Nat → Bool} {held : Bool} {fuel : Nat} {t : TypeId} {cs : List Value} {x : DataW H × List MemPlace} {fs : Array Field} (ht : P.underlying t = some (.struct fs)) (h : DataW.trod enc P W 0 spare held fuel t cs = some x) :
    ∃ (xs : List (DataW H × List MemPlace)) (n : Nat), cs.length = P.cellsOf t ∧ (fs.toList.mapM fun f => DataW.trod enc P W 0 spare held n f.type ((cs.drop f.offset).take (P.cellsOf f.type))) = some xs ∧ x = (.agg (xs.map (·.1)), xs.flatMap (·.2)) := by
  cases fuel with
  | zero => simp [DataW.trod] at h
  | succ n =>
    unfold DataW.trod at h
    rw [ht] at h
    split at h <;> simp_all
    obtain ⟨hl, xs, hp, hd⟩ := h
    exact ⟨xs, ⟨n, hp⟩, hd.symm⟩
theorem opens_struct {α β : Type} {F : EncF α} {t : TypeId} {fs : Array Field} {g : β → α} {wf : α → Prop} {wt : α → Nat} (inv : α → β) (hinv : ∀ x, g (inv x) = x) (ht : P.underlying t = some (.struct fs)) (hsz : P.cellsOf t = F.sz) (h : OpensF P W F fs.toList 0 wf wt) :
    Opens P W (eStruct F g) t (fun x => wf (g x)) (fun x => wt (g x) + 1) := by
  intro H enc spare held fuel cs x hx
  obtain ⟨xs, n, hl, hxs, rfl⟩ := struct_parts ht hx
  obtain ⟨y, h1, h2, h3⟩ := h H enc spare held n cs xs (by omega) hxs
  refine ⟨inv y, ?_, by show wf (g (inv y)); rw [hinv]; exact h2, by show wt (g (inv y)) + 1 ≤ _; rw [hinv]; simp only [uptoBulk]; omega⟩
  show VRels mu0 (Was W) W (F.enc (g (inv y))) cs
  rw [hinv]
  simpa using h1
/-- An argument: the value itself. -/
theorem rel_scal {v : V} {x : Value} (hv : v.cells = [v]) (hx : x.cells.toList = [x]) (h : VRels mu0 (Was W) W v.cells x.cells.toList) : VRel mu0 (Was W) W v x := by
  rw [hv, hx] at h
  cases h with
  | cons h _ => exact h
theorem rel_agg {cs : List V} {vs : Array Value} (h : VRels mu0 (Was W) W (V.cells (.agg cs)) (Value.cells (.agg vs)).toList) (hd : cs.all V.dsc = true) : VRel mu0 (Was W) W (.agg cs) (.agg vs) := by
  have : VRels mu0 (Was W) W cs vs.toList := h
  exact this.agg (dsc_agg hd)
/-- The machine's answer is the program's; what was there stays. -/
theorem calls_of (hm : P.follows .mixedOrders = true) {tbl : Nat → Option Fn} (T : TblOK P tbl) (L : LaidOK (Was W) W) {f : Nat} {xs : List V} {v : V} {H' : Heap} {cargs : Array Value} (ha : VRels mu0 (Was W) W xs cargs.toList) (h : ∃ n, callN tbl n f xs [] = some (v, H')) :
    Calls P f cargs W fun e W' => ∃ cv μ' S', e = .returned cv ∧ VRel μ' S' W' v cv ∧ Below W.heap.size W W' := by
  obtain ⟨n, hn⟩ := h
  have I : Inv mu0 (Was W) [] W := ⟨fun _ _ _ h => (by cases h), fun _ h => h, fun _ _ _ _ h _ _ => (by simp at h), fun _ _ _ _ _ _ _ h _ _ _ _ _ => (by simp at h), fun _ _ _ _ h _ _ => (by simp at h), L⟩
  refine Calls.mono ((callN_sound hm T n f xs [] v H' hn).2 mu0 (Was W) W cargs I ha) fun e W' ⟨cv, μ', S', he, r, i, x⟩ => ?_
  exact ⟨cv, μ', S', he, r, x.os, x.tape, x.output, x.size, fun k hk => x.keep k hk fun ⟨id, o, q, h1, _⟩ => by simp at h1⟩
end Go.AM

/- Expressions: what a region's operations compute, as trees. -/
set_option linter.unusedVariables false
set_option linter.unusedSimpArgs false
namespace Go.AM
inductive E where
  | s (i : Nat)
  | c (v : V)
  | p (o : POp) (es : List E)
  | r (o : ROp) (es : List E)
  | call (f : Nat) (es : List E)
  | callv (es : List E)
  | and (a b : E)
  | or (a b : E)
mutual
def eBeq : E → E → Bool
  | .s i, .s j => i == j
  | .c v, .c w => decide (v = w)
  | .p o a, .p q b => decide (o = q) && eBeqs a b
  | .r o a, .r q b => decide (o = q) && eBeqs a b
  | .call f a, .call g b => f == g && eBeqs a b
  | .callv a, .callv b => eBeqs a b
  | .and a b, .and c d => eBeq a c && eBeq b d
  | .or a b, .or c d => eBeq a c && eBeq b d
  | _, _ => false
def eBeqs : List E → List E → Bool
  | [], [] => true
  | a :: r, b :: t => eBeq a b && eBeqs r t
  | _, _ => false
end
mutual
theorem eBeq_eq : ∀ a b : E, eBeq a b = true → a = b
  | .s i, b, h => by cases b <;> simp [eBeq] at h; rw [h]
  | .c v, b, h => by cases b <;> simp [eBeq] at h; rw [h]
  | .p o a, b, h => by cases b <;> simp [eBeq] at h; rw [h.1, eBeqs_eq _ _ h.2]
  | .r o a, b, h => by cases b <;> simp [eBeq] at h; rw [h.1, eBeqs_eq _ _ h.2]
  | .call o a, b, h => by cases b <;> simp [eBeq] at h; rw [h.1, eBeqs_eq _ _ h.2]
  | .callv a, b, h => by cases b <;> simp [eBeq] at h; rw [eBeqs_eq _ _ h]
  | .and a b, c, h => by cases c <;> simp [eBeq] at h; rw [eBeq_eq _ _ h.1, eBeq_eq _ _ h.2]
  | .or a b, c, h => by cases c <;> simp [eBeq] at h; rw [eBeq_eq _ _ h.1, eBeq_eq _ _ h.2]
theorem eBeqs_eq : ∀ a b : List E, eBeqs a b = true → a = b
  | [], b, h => by cases b <;> simp [eBeqs] at h ⊢
  | x :: r, b, h => by cases b <;> simp [eBeqs] at h; rw [eBeq_eq _ _ h.1, eBeqs_eq _ _ h.2]
end
/-! Operands by their place. -/
def evl (vs : List V) : Opd → V
  | .t i => vs.getD i .undef
  | .c v => v
def POp.opds : POp → List Opd
  | .mov x | .nilck x | .isnil _ _ x | .un _ x | .conv _ x | .fad _ x | .fld _ _ x | .ext x _ | .len _ x => [x]
  | .pick c a b => [c, a, b]
  | .build _ ps => ps.map (·.2.2)
  | .bin _ x y | .beq _ x y | .eqs _ _ x y | .iad _ x y | .iar _ _ x y | .ixs x y | .ixa _ _ x y | .min x y | .max x y => [x, y]
  | .mkfn _ p c => p ++ c
  | .slc _ x lo hi | .sls x lo hi => x :: (lo.toList ++ hi.toList)
def rnL : Nat → List Opd → List Opd
  | _, [] => []
  | k, _ :: r => .t k :: rnL (k + 1) r
def rnB : Nat → List (Nat × Nat × Opd) → List (Nat × Nat × Opd)
  | _, [] => []
  | k, (a, b, _) :: r => (a, b, .t k) :: rnB (k + 1) r
def rnM : Nat → List (Nat × Opd) → List (Nat × Opd)
  | _, [] => []
  | k, (a, _) :: r => (a, .t k) :: rnM (k + 1) r
def rnLo (lo : Option Opd) : Option Opd := lo.map fun _ => .t 1
def rnHi (lo hi : Option Opd) : Option Opd := hi.map fun _ => .t (1 + lo.toList.length)
def POp.canon : POp → POp
  | .mov _ => .mov (.t 0)
  | .nilck _ => .nilck (.t 0)
  | .isnil k n _ => .isnil k n (.t 0)
  | .un o _ => .un o (.t 0)
  | .conv k _ => .conv k (.t 0)
  | .fad k _ => .fad k (.t 0)
  | .fld k s _ => .fld k s (.t 0)
  | .ext _ i => .ext (.t 0) i
  | .len b _ => .len b (.t 0)
  | .pick _ _ _ => .pick (.t 0) (.t 1) (.t 2)
  | .build z ps => .build z (rnB 0 ps)
  | .bin o _ _ => .bin o (.t 0) (.t 1)
  | .beq o _ _ => .beq o (.t 0) (.t 1)
  | .eqs o k _ _ => .eqs o k (.t 0) (.t 1)
  | .iad o _ _ => .iad o (.t 0) (.t 1)
  | .iar a o _ _ => .iar a o (.t 0) (.t 1)
  | .ixs _ _ => .ixs (.t 0) (.t 1)
  | .ixa a o _ _ => .ixa a o (.t 0) (.t 1)
  | .min _ _ => .min (.t 0) (.t 1)
  | .max _ _ => .max (.t 0) (.t 1)
  | .mkfn f p c => .mkfn f (rnL 0 p) (rnL p.length c)
  | .slc s _ lo hi => .slc s (.t 0) (rnLo lo) (rnHi lo hi)
  | .sls _ lo hi => .sls (.t 0) (rnLo lo) (rnHi lo hi)
def ROp.opds : ROp → List Opd
  | .load _ a => [a]
  | .look _ _ _ m k => [m, k]
  | .lenm m => [m]
  | .b2s x => [x]
def ROp.canon : ROp → ROp
  | .load sh _ => .load sh (.t 0)
  | .look kt z ok _ _ => .look kt z ok (.t 0) (.t 1)
  | .lenm _ => .lenm (.t 0)
  | .b2s _ => .b2s (.t 0)
def LOp.opds : LOp → List Opd
  | .alloc .. | .mkmap _ | .allocT _ => []
  | .box _ _ x | .mkmaph _ x | .boxT _ x => [x]
  | .mks _ _ _ _ ps => ps.map (·.2)
  | .make _ _ _ _ l c => [l, c]
def LOp.canon : LOp → LOp
  | .alloc s fl z => .alloc s fl z
  | .mkmap kt => .mkmap kt
  | .box s fl _ => .box s fl (.t 0)
  | .mkmaph kt _ => .mkmaph kt (.t 0)
  | .allocT t => .allocT t
  | .boxT t _ => .boxT t (.t 0)
  | .mks s fl z n ps => .mks s fl z n (rnM 0 ps)
  | .make s fl z b _ _ => .make s fl z b (.t 0) (.t 1)
def EOp.opds : EOp → List Opd
  | .store _ a x | .app _ _ _ a x | .copy _ a x => [a, x]
  | .clear _ _ a | .s2b a => [a]
  | .mup _ m k x => [m, k, x]
  | .call _ xs => xs
  | .callv g xs => g :: xs
def EOp.canon : EOp → EOp
  | .store n _ _ => .store n (.t 0) (.t 1)
  | .app s fl b _ _ => .app s fl b (.t 0) (.t 1)
  | .copy s _ _ => .copy s (.t 0) (.t 1)
  | .clear s z _ => .clear s z (.t 0)
  | .s2b _ => .s2b (.t 0)
  | .mup kt _ _ _ => .mup kt (.t 0) (.t 1) (.t 2)
  | .call f xs => .call f (rnL 0 xs)
  | .callv _ xs => .callv (.t 0) (rnL 1 xs)
theorem rnL_ev {ρ : Opd → V} : ∀ (xs : List Opd) (pre post : List V), (rnL pre.length xs).map (evl (pre ++ xs.map ρ ++ post)) = xs.map ρ
  | [], _, _ => rfl
  | x :: r, pre, post => by
    have := rnL_ev (ρ := ρ) r (pre ++ [ρ x]) post
    simp only [List.length_append, List.length_cons, List.length_nil, Nat.zero_add] at this
    simp only [rnL, List.map_cons]
    rw [show pre ++ (ρ x :: r.map ρ) ++ post = pre ++ [ρ x] ++ r.map ρ ++ post by simp, this]
    simp [evl]
theorem rnB_ev {ρ : Opd → V} : ∀ (xs : List (Nat × Nat × Opd)) (pre : List V), (rnB pre.length xs).map (fun p => (p.1, p.2.1, evl (pre ++ xs.map fun p => ρ p.2.2) p.2.2)) = xs.map fun p => (p.1, p.2.1, ρ p.2.2)
  | [], _ => rfl
  | (a, b, x) :: r, pre => by
    have := rnB_ev (ρ := ρ) r (pre ++ [ρ x])
    simp only [List.length_append, List.length_cons, List.length_nil, Nat.zero_add] at this
    simp only [rnB, List.map_cons]
    rw [show pre ++ (ρ x :: r.map fun p => ρ p.2.2) = pre ++ [ρ x] ++ r.map (fun p => ρ p.2.2) by simp, this]
    simp [evl]
theorem rnM_ev {ρ : Opd → V} {α : Type} (g : α → Nat × V → Option α) : ∀ (xs : List (Nat × Opd)) (pre : List V) (z : α), (rnM pre.length xs).foldlM (fun z p => g z (p.1, evl (pre ++ xs.map fun p => ρ p.2) p.2)) z = xs.foldlM (fun z p => g z (p.1, ρ p.2)) z
  | [], _, _ => rfl
  | (a, x) :: r, pre, z => by
    have := fun z => rnM_ev (ρ := ρ) g r (pre ++ [ρ x]) z
    simp only [List.length_append, List.length_cons, List.length_nil, Nat.zero_add] at this
    simp only [rnM, List.map_cons, List.foldlM_cons]
    rw [show pre ++ (ρ x :: r.map fun p => ρ p.2) = pre ++ [ρ x] ++ r.map (fun p => ρ p.2) by simp]
    have e : evl (pre ++ [ρ x] ++ r.map (fun p => ρ p.2)) (.t pre.length) = ρ x := by simp [evl]
    rw [e]
    cases g z (a, ρ x) with
    | none => rfl
    | some z' => exact this z'
theorem stepP_canon (ρ : Opd → V) (o : POp) : stepP (evl (o.opds.map ρ)) o.canon = stepP ρ o := by
  cases o with
  | build z ps =>
    have := rnB_ev (ρ := ρ) ps []
    simp only [POp.canon, POp.opds, stepP, List.map_map]
    rw [show (ps.map (ρ ∘ fun x => x.2.2)) = [] ++ ps.map (fun p => ρ p.2.2) by simp [Function.comp_def]]
    rw [show (0 : Nat) = ([] : List V).length from rfl, this]
  | mkfn f p c =>
    have h1 := rnL_ev (ρ := ρ) p [] (c.map ρ)
    have h2 := rnL_ev (ρ := ρ) c (p.map ρ) []
    simp only [List.length_nil, List.nil_append, List.length_map, List.append_nil] at h1 h2
    simp only [POp.canon, POp.opds, stepP, List.map_append]
    rw [h1, h2]
  | slc s x lo hi => cases lo <;> cases hi <;> rfl
  | sls x lo hi => cases lo <;> cases hi <;> rfl
  | _ => rfl
theorem stepR_canon (ρ : Opd → V) (H : Heap) (o : ROp) : stepR (evl (o.opds.map ρ)) H o.canon = stepR ρ H o := by cases o <;> rfl
theorem stepL_canon (ρ : Opd → V) (id : Nat) (o : LOp) : stepL (evl (o.opds.map ρ)) id o.canon = stepL ρ id o := by
  cases o with
  | mks s fl z n ps =>
    have := rnM_ev (ρ := ρ) (fun (xs : List V) (p : Nat × V) => if okEl s fl p.2 ∧ p.1 < xs.length then some (xs.set p.1 p.2) else none) ps []
    simp only [List.length_nil, List.nil_append] at this
    simp only [LOp.canon, LOp.opds, stepL, List.map_map]
    rw [show (ps.map (ρ ∘ fun x => x.2)) = ps.map (fun p => ρ p.2) from rfl, this]
  | _ => rfl
theorem stepE_canon (call : CallF) (ρ : Opd → V) (H : Heap) (o : EOp) : stepE call (evl (o.opds.map ρ)) H o.canon = stepE call ρ H o := by
  cases o with
  | call f xs =>
    have h1 := rnL_ev (ρ := ρ) xs [] []
    simp only [List.length_nil, List.nil_append, List.append_nil] at h1
    simp only [EOp.canon, EOp.opds, stepE]
    rw [h1]
  | callv g xs =>
    have h1 := rnL_ev (ρ := ρ) xs [ρ g] []
    simp only [List.length_cons, List.length_nil, List.append_nil] at h1
    simp only [EOp.canon, EOp.opds, stepE, List.map_cons]
    rw [show (1 : Nat) = 0 + 1 from rfl]
    simp only [List.singleton_append] at h1
    rw [h1]
    rfl
  | _ => rfl
/-! What they are worth. -/
theorem Ans_det {T : Nat → Option Fn} {f : Nat} {xs : List V} {H : Heap} {v v' : V} {H1 H2 : Heap} (a : Ans T f xs H v H1) (b : Ans T f xs H v' H2) : v = v' ∧ H1 = H2 := by
  obtain ⟨n, hn⟩ := a
  obtain ⟨m, hm⟩ := b
  have h1 := callN_mono T (Nat.le_max_left n m) _ _ _ _ hn
  have h2 := callN_mono T (Nat.le_max_right n m) _ _ _ _ hm
  rw [h1] at h2
  injection h2 with h2
  injection h2 with h2 h3
  exact ⟨h2, h3⟩
open Classical in
noncomputable def callV (T : Nat → Option Fn) (f : Nat) (xs : List V) (H : Heap) : Option V := if h : ∃ v, Ans T f xs H v H then some h.choose else none
theorem callV_of {T : Nat → Option Fn} {f : Nat} {xs : List V} {H : Heap} {v : V} (h : Ans T f xs H v H) : callV T f xs H = some v := by
  have hx : ∃ v, Ans T f xs H v H := ⟨v, h⟩
  simp only [callV, dif_pos hx]
  rw [(Ans_det hx.choose_spec h).1]
theorem callV_ans {T : Nat → Option Fn} {f : Nat} {xs : List V} {H : Heap} {v : V} (h : callV T f xs H = some v) : Ans T f xs H v H := by
  unfold callV at h
  split at h
  · rename_i hx
    injection h with h
    rw [← h]
    exact hx.choose_spec
  · cases h
def kn : V → Option V
  | .undef => none
  | v => some v
theorem kn_some {v w : V} (h : kn v = some w) : v = w ∧ v ≠ .undef := by
  cases v <;> simp [kn] at h <;> exact ⟨h, by simp⟩
noncomputable section
mutual
def evE (T : Nat → Option Fn) (A : Sl) (H : Heap) : E → Option V
  | .s i => kn (get A i)
  | .c v => some v
  | .p o es => match evEs T A H es with | some vs => stepP (evl vs) o | none => none
  | .r o es => match evEs T A H es with | some vs => stepR (evl vs) H o | none => none
  | .call f es => match evEs T A H es with | some vs => callV T f vs H | none => none
  | .callv es => match evEs T A H es with
    | some (.fn f p c :: xs) => callV T f (p ++ xs ++ c) H
    | _ => none
  | .and a b => match evE T A H a with
    | some (.bool true) => evE T A H b
    | some (.bool false) => some (.bool false)
    | _ => none
  | .or a b => match evE T A H a with
    | some (.bool false) => evE T A H b
    | some (.bool true) => some (.bool true)
    | _ => none
def evEs (T : Nat → Option Fn) (A : Sl) (H : Heap) : List E → Option (List V)
  | [] => some []
  | e :: r => match evE T A H e with
    | some v => match evEs T A H r with
      | some vs => some (v :: vs)
      | none => none
    | none => none
end
end
end Go.AM

/- Regions as trees: what is kept for later, and what is looked at. -/
set_option linter.unusedVariables false
set_option linter.unusedSimpArgs false
namespace Go.AM
abbrev Mask := Nat
abbrev TT : E := .c (.bool true)
def eNot (e : E) : E := .p (.un .not (.t 0)) [e]
def mkAnd (a b : E) : E := if eBeq a TT then b else .and a b
/-- What slots are worth: an expression, and whether it is reached. -/
abbrev Sg := List (Nat × E × E)
def lk : Sg → Nat → Option (E × E)
  | [], _ => none
  | (j, x) :: r, i => if j = i then some x else lk r i
def leP (a p : E) : Bool := eBeq a TT || (eBeq a p || match p with | .and q _ => eBeq a q | _ => false)
def opdE (σ : Sg) (π : E) : Opd → Option E
  | .c v => some (.c v)
  | .t i => match lk σ i with
    | some (e, πi) => if leP πi π then some e else none
    | none => some (.s i)
def opdEs (σ : Sg) (π : E) : List Opd → Option (List E)
  | [] => some []
  | x :: r => match opdE σ π x, opdEs σ π r with
    | some e, some es => some (e :: es)
    | _, _ => none
def gP (σ : Sg) : Option (Nat × Bool) → E
  | none => TT
  | some (g, b) => match lk σ g with
    | some (e, π) => mkAnd π (if b then e else eNot e)
    | none => if b then .s g else eNot (.s g)
/-- The value that one of two ways left. -/
def exPick (σ : Sg) (π : E) (c : Nat) (x y : Opd) : Option E :=
  match lk σ c with
  | some (ec, πc) => if leP πc π then
      match x, y with
      | .c (.bool true), .t i => match lk σ i with
        | some (e, πi) => if eBeq πi (mkAnd πc (eNot ec)) then some (.or ec e) else none
        | none => none
      | .t i, .c (.bool false) => match lk σ i with
        | some (e, πi) => if eBeq πi (mkAnd πc ec) then some (.and ec e) else none
        | none => none
      | _, _ => none
    else none
  | none => none
def exOp (σ : Sg) (π : E) : AOp → Option E
  | .p (.mov x) => opdE σ π x
  | .p (.pick (.t c) x y) => match exPick σ π c x y with
    | some e => some e
    | none => (opdEs σ π [.t c, x, y]).map (.p (POp.pick (.t 0) (.t 1) (.t 2)))
  | .p o => (opdEs σ π o.opds).map (.p o.canon)
  | .r o => (opdEs σ π o.opds).map (.r o.canon)
  | .e (.call f xs) => (opdEs σ π xs).map (.call f)
  | .e (.callv g xs) => (opdEs σ π (g :: xs)).map .callv
  | _ => none
/-- Operands by their place, of what changes memory. -/
inductive XOp where
  | l (o : LOp)
  | e (o : EOp)
  | call (f : Nat)
  | callv
  deriving DecidableEq
def XOp.of : AOp → Option (XOp × List Opd)
  | .l o => some (.l o.canon, o.opds)
  | .e (.call f xs) => some (.call f, xs)
  | .e (.callv g xs) => some (.callv, g :: xs)
  | .e o => some (.e o.canon, o.opds)
  | _ => none
inductive BS where
  | chk (π e : E)
  | eff (ds : List (Nat × E)) (kf : Mask) (d : Option Nat) (o : XOp) (es : List E)
/-- What a region's operations read of what was there. -/
def usesO (o : AO) : List Nat :=
  let xs := match o.op with
    | .p o => o.opds
    | .r o => o.opds
    | .l o => o.opds
    | .e o => o.opds
  (match o.guard with | some (g, _) => [g] | none => []) ++ xs.filterMap fun x => match x with | .t i => some i | .c _ => none
def mdel (m : Mask) (i : Nat) : Mask := if m.testBit i then m ^^^ (1 <<< i) else m
def madd (m : Mask) (i : Nat) : Mask := m ||| (1 <<< i)
def dropD : Option Nat → Mask → Mask
  | some d, m => mdel m d
  | none, m => m
def liveIn (lv : Mask) : List AO → Mask
  | [] => lv
  | o :: r => (usesO o).foldl madd (dropD o.dst (liveIn lv r))
/-- The slots to lay, of those that are wanted later. -/
def flushG (m : Mask) : Sg → List Nat → Option (List (Nat × E))
  | [], _ => some []
  | (i, e, π) :: r, seen => if m.testBit i && !seen.contains i then
      (if eBeq π TT then (flushG m r (i :: seen)).map ((i, e) :: ·) else none)
    else flushG m r (i :: seen)
def flush (σ : Sg) (m : Mask) : Option (List (Nat × E)) := flushG m σ []
def pushS (d : Option Nat) (x : E × E) (σ : Sg) : Sg := match d with | some d => (d, x) :: σ | none => σ
/-- fx: does it change memory? -/
def cln (fx : AOp → Bool) (lv : Mask) : List AO → Sg → Option (List BS × Sg)
  | [], σ => some ([], σ)
  | o :: r, σ =>
    if fx o.op then
      match o.guard, XOp.of o.op with
      | none, some (x, xs) =>
        match opdEs σ TT xs, flush σ (dropD o.dst (liveIn lv r)), cln fx lv r [] with
        | some es, some ds, some (bs, σ') => some (.eff ds (dropD o.dst (liveIn lv r)) o.dst x es :: bs, σ')
        | _, _, _ => none
      | _, _ => none
    else
      match exOp σ (gP σ o.guard) o.op with
      | some e => match cln fx lv r (pushS o.dst (e, gP σ o.guard) σ) with
        | some (bs, σ') => some (.chk (gP σ o.guard) e :: bs, σ')
        | none => none
      | none => none
/-- Slots in order. -/
def ins (i : Nat) (v : V) : Sl → Sl
  | [] => [(i, v)]
  | (j, w) :: r => bif Nat.beq i j then (i, v) :: r else bif Nat.ble i j then (i, v) :: (j, w) :: r else (j, w) :: ins i v r
def putL : List Nat → List V → Sl → Sl
  | i :: r, v :: vs, A => ins i v (putL r vs A)
  | _, _, A => A
def keepM (m : Mask) : Sl → Sl
  | [] => []
  | (i, v) :: r => bif m.testBit i then (i, v) :: keepM m r else keepM m r
def insD (d : Option Nat) (v : V) (A : Sl) : Sl := match d with
  | some i => ins i v A
  | none => A
section
variable (T : Nat → Option Fn)
def stepX (o : XOp) (vs : List V) (H : Heap) (v : V) (H' : Heap) : Prop := match o with
  | .l o => ∃ x, stepL (evl vs) H.length o = some (x, v) ∧ H' = H ++ [x]
  | .call f => Ans T f vs H v H'
  | .callv => ∃ f p c xs, vs = .fn f p c :: xs ∧ Ans T f (p ++ xs ++ c) H v H'
  | .e o => stepE (fun _ _ _ => none) (evl vs) H o = some (v, H')
def Dfd (A : Sl) (H : Heap) (π e : E) : Prop := ∃ c, evE T A H π = some (.bool c) ∧ (c = true → ∃ v, evE T A H e = some v)
def wpS : List BS → SS → (SS → Prop) → Prop
  | [], st, K => K st
  | .chk π e :: r, st, K => Dfd T st.1 st.2 π e ∧ wpS r st K
  | .eff ds kf d o es :: r, (A, H), K => ∃ ws vs v H', evEs T A H (ds.map (·.2)) = some ws ∧ evEs T A H es = some vs ∧ stepX T o vs H v H' ∧ wpS r (insD d v (keepM kf (putL (ds.map (·.1)) ws A)), H') K
theorem wpS_mono {K K' : SS → Prop} (h : ∀ st, K st → K' st) : ∀ {bs : List BS} {st : SS}, wpS T bs st K → wpS T bs st K'
  | [], st, k => h _ k
  | .chk π e :: r, st, k => ⟨k.1, wpS_mono h k.2⟩
  | .eff ds kf d o es :: r, (A, H), k => by
    obtain ⟨ws, vs, v, H', h1, h2, h3, h4⟩ := k
    exact ⟨ws, vs, v, H', h1, h2, h3, wpS_mono h h4⟩
/-- What the slots hold, by what is known of those at the beginning. -/
structure Inv1 (A : Sl) (H : Heap) (σ : Sg) (sl : List V) : Prop where
  out : ∀ i, lk σ i = none → get A i = .undef ∨ get A i = sl.getD i .undef
  ent : ∀ i e π, lk σ i = some (e, π) → ∃ c, evE T A H π = some (.bool c) ∧ (c = true → evE T A H e = some (sl.getD i .undef)) ∧ (c = false → sl.getD i .undef = .tup [])
end
section
variable {T : Nat → Option Fn}
theorem evE_TT {A : Sl} {H : Heap} : evE T A H TT = some (.bool true) := rfl
theorem evE_not {A : Sl} {H : Heap} {e : E} {b : Bool} (h : evE T A H e = some (.bool b)) : evE T A H (eNot e) = some (.bool (!b)) := by
  simp [eNot, evE, evEs, h, stepP, evl, stepUn]
theorem evE_not_inv {A : Sl} {H : Heap} {e : E} {c : Bool} (h : evE T A H (eNot e) = some (.bool c)) : evE T A H e = some (.bool (!c)) := by
  simp only [eNot, evE, evEs] at h
  cases he : evE T A H e with
  | none => rw [he] at h; simp at h
  | some v =>
    rw [he] at h
    simp only [stepP, evl, List.getD_cons_zero] at h
    cases v <;> simp [stepUn] at h; rw [h]
theorem evE_and {A : Sl} {H : Heap} {a b : E} {p : Bool} (ha : evE T A H a = some (.bool p)) : evE T A H (mkAnd a b) = if p then evE T A H b else some (.bool false) := by
  unfold mkAnd
  split
  · rename_i h
    have := eBeq_eq _ _ h
    subst this
    rw [evE_TT] at ha
    injection ha with ha
    injection ha with ha
    subst ha
    rfl
  · simp only [evE, ha]
    cases p <;> rfl
theorem leP_true {A : Sl} {H : Heap} {a p : E} (h : leP a p = true) (hp : evE T A H p = some (.bool true)) : evE T A H a = some (.bool true) := by
  simp only [leP, Bool.or_eq_true] at h
  rcases h with h | h | h
  · rw [eBeq_eq _ _ h]; exact evE_TT
  · rw [eBeq_eq _ _ h]; exact hp
  · cases p with
    | and q b =>
      rw [eBeq_eq _ _ h]
      simp only [evE] at hp
      split at hp
      · rename_i hq; exact hq
      · cases hp
      · cases hp
    | _ => cases h
variable {A : Sl} {H : Heap} {σ : Sg} {sl : List V}
theorem opd_val (I : Inv1 T A H σ sl) {π : E} (hp : evE T A H π = some (.bool true)) {x : Opd} {e : E} (hx : opdE σ π x = some e) {v : V} (he : evE T A H e = some v) : ev sl x = v := by
  cases x with
  | c w =>
    simp only [opdE] at hx
    injection hx with hx
    subst hx
    simp only [evE] at he
    injection he
  | t i =>
    simp only [opdE] at hx
    split at hx
    · rename_i e' πi hl
      split at hx
      · rename_i hle
        injection hx with hx
        subst hx
        obtain ⟨c, h1, h2, _⟩ := I.ent i _ _ hl
        rw [leP_true hle hp] at h1
        injection h1 with h1
        injection h1 with h1
        rw [h2 h1.symm] at he
        injection he
      · cases hx
    · rename_i hl
      injection hx with hx
      subst hx
      simp only [evE] at he
      obtain ⟨h1, h2⟩ := kn_some he
      rcases I.out i hl with h | h
      · exact absurd h h2
      · show sl.getD i .undef = v
        rw [← h, h1]
theorem opd_vals (I : Inv1 T A H σ sl) {π : E} (hp : evE T A H π = some (.bool true)) : ∀ {xs : List Opd} {es : List E} {vs : List V}, opdEs σ π xs = some es → evEs T A H es = some vs → xs.map (ev sl) = vs
  | [], es, vs, hx, he => by
    simp only [opdEs] at hx
    injection hx with hx
    subst hx
    simp only [evEs] at he
    injection he
  | x :: r, es, vs, hx, he => by
    simp only [opdEs] at hx
    split at hx
    · rename_i e1 es1 h1 h2
      injection hx with hx
      subst hx
      simp only [evEs] at he
      split at he
      · rename_i v hv
        split at he
        · rename_i vs' hvs
          injection he with he
          subst he
          rw [List.map_cons, opd_val I hp h1 hv, opd_vals I hp h2 hvs]
        · cases he
      · cases he
    · cases hx
theorem evp_inv {o : POp} {es : List E} {v : V} (h : evE T A H (.p o es) = some v) : ∃ vs, evEs T A H es = some vs ∧ stepP (evl vs) o = some v := by
  simp only [evE] at h
  split at h
  · rename_i vs hv; exact ⟨vs, hv, h⟩
  · cases h
theorem evr_inv {o : ROp} {es : List E} {v : V} (h : evE T A H (.r o es) = some v) : ∃ vs, evEs T A H es = some vs ∧ stepR (evl vs) H o = some v := by
  simp only [evE] at h
  split at h
  · rename_i vs hv; exact ⟨vs, hv, h⟩
  · cases h
theorem Ans.stepC {f : Nat} {xs : List V} {H : Heap} {v : V} {H' : Heap} (h : Ans T f xs H v H') : ∃ n, ∀ m, n ≤ m → callN T m f xs H = some (v, H') := by
  obtain ⟨n, hn⟩ := h
  exact ⟨n, fun m hm => callN_mono T hm _ _ _ _ hn⟩
theorem stepE_any {call : CallF} {ρ : Opd → V} {o : EOp} (hc : ∀ f xs, o ≠ .call f xs) (hv : ∀ g xs, o ≠ .callv g xs) : stepE call ρ H o = stepE (fun _ _ _ => none) ρ H o := by
  cases o with
  | call f xs => exact absurd rfl (hc f xs)
  | callv f xs => exact absurd rfl (hv f xs)
  | _ => rfl
theorem opd_known (I : Inv1 T A H σ sl) {π : E} (hp : evE T A H π = some (.bool true)) {c : Nat} {ec πc : E} (hc : lk σ c = some (ec, πc)) (hl : leP πc π = true) {v : V} (he : evE T A H ec = some v) : sl.getD c .undef = v := by
  obtain ⟨k, h1, h2, _⟩ := I.ent c _ _ hc
  rw [leP_true hl hp] at h1
  injection h1 with h1
  injection h1 with h1
  rw [h2 h1.symm] at he
  injection he
theorem stepP_plain (I : Inv1 T A H σ sl) {π : E} (hp : evE T A H π = some (.bool true)) {o : POp} {e : E} (hx : (opdEs σ π o.opds).map (E.p o.canon) = some e) {v : V} (he : evE T A H e = some v) : stepP (ev sl) o = some v := by
  simp only [Option.map_eq_some_iff] at hx
  obtain ⟨es, h1, rfl⟩ := hx
  obtain ⟨vs, h2, h3⟩ := evp_inv he
  have := opd_vals I hp h1 h2
  rw [← this, stepP_canon] at h3
  exact h3
/-- One operation that changes nothing. -/
theorem exOp_run (I : Inv1 T A H σ sl) {π : E} (hp : evE T A H π = some (.bool true)) {o : AOp} {e : E} (hx : exOp σ π o = some e) {v : V} (he : evE T A H e = some v) : ∃ n, ∀ m, n ≤ m → stepA (callN T m) (ev sl) H o = some (v, H) := by
  cases o with
  | p o =>
    refine ⟨0, fun m _ => ?_⟩
    suffices h : stepP (ev sl) o = some v by simp only [stepA, h]; rfl
    cases o with
    | mov x =>
      simp only [exOp] at hx
      simp only [stepP, opd_val I hp hx he]
    | pick c x y =>
      cases c with
      | c w => exact stepP_plain (o := .pick (.c w) x y) I hp hx he
      | t c =>
        simp only [exOp] at hx
        split at hx
        · rename_i e' hpk
          injection hx with hx
          subst hx
          unfold exPick at hpk
          split at hpk
          · rename_i ec πc hc
            split at hpk
            · rename_i hle
              obtain ⟨kc, hk1, hk2, _⟩ := I.ent c _ _ hc
              rw [leP_true hle hp] at hk1
              injection hk1 with hk1
              injection hk1 with hk1
              have hec := hk2 hk1.symm
              have hπc := leP_true hle hp
              split at hpk
              · rename_i i
                split at hpk
                · rename_i ei πi hi
                  split at hpk
                  · rename_i hb
                    injection hpk with hpk
                    subst hpk
                    have hb := eBeq_eq _ _ hb
                    subst hb
                    simp only [evE, hec] at he
                    split at he
                    · rename_i hq
                      injection hq with hq
                      obtain ⟨c2, g1, g2, _⟩ := I.ent i _ _ hi
                      rw [evE_and hπc, if_pos rfl, evE_not (by rw [hec, hq])] at g1
                      injection g1 with g1
                      injection g1 with g1
                      have g2 := g2 (by rw [← g1]; rfl)
                      rw [he] at g2
                      injection g2 with g2
                      simp only [stepP, ev, hq]
                      simp [g2]
                    · rename_i hq
                      injection hq with hq
                      injection he with he
                      simp only [stepP, ev, hq, ← he]
                      rfl
                    · cases he
                  · cases hpk
                · cases hpk
              · rename_i i
                split at hpk
                · rename_i ei πi hi
                  split at hpk
                  · rename_i hb
                    injection hpk with hpk
                    subst hpk
                    have hb := eBeq_eq _ _ hb
                    subst hb
                    simp only [evE, hec] at he
                    split at he
                    · rename_i hq
                      injection hq with hq
                      obtain ⟨c2, g1, g2, _⟩ := I.ent i _ _ hi
                      rw [evE_and hπc, if_pos rfl, hec, hq] at g1
                      injection g1 with g1
                      injection g1 with g1
                      have g2 := g2 g1.symm
                      rw [he] at g2
                      injection g2 with g2
                      simp only [stepP, ev, hq]
                      simp [g2]
                    · rename_i hq
                      injection hq with hq
                      injection he with he
                      simp only [stepP, ev, hq, ← he]
                      rfl
                    · cases he
                  · cases hpk
                · cases hpk
              · cases hpk
            · cases hpk
          · cases hpk
        · exact stepP_plain (o := .pick (.t c) x y) I hp hx he
    | _ => exact stepP_plain I hp hx he
  | r o =>
    refine ⟨0, fun m _ => ?_⟩
    simp only [exOp, Option.map_eq_some_iff] at hx
    obtain ⟨es, h1, rfl⟩ := hx
    obtain ⟨vs, h2, h3⟩ := evr_inv he
    have := opd_vals I hp h1 h2
    rw [← this, stepR_canon] at h3
    simp only [stepA, h3]; rfl
  | l o => cases hx
  | e o =>
    cases o with
    | call f xs =>
      simp only [exOp, Option.map_eq_some_iff] at hx
      obtain ⟨es, h1, rfl⟩ := hx
      simp only [evE] at he
      split at he
      · rename_i vs hv
        have := opd_vals I hp h1 hv
        obtain ⟨n, hn⟩ := (callV_ans he).stepC
        exact ⟨n, fun m hm => by simp only [stepA, stepE, this, hn m hm]⟩
      · cases he
    | callv g xs =>
      simp only [exOp, Option.map_eq_some_iff] at hx
      obtain ⟨es, h1, rfl⟩ := hx
      simp only [evE] at he
      split at he
      · rename_i f p c vs hv
        have := opd_vals I hp h1 hv
        simp only [List.map_cons, List.cons.injEq] at this
        obtain ⟨n, hn⟩ := (callV_ans he).stepC
        exact ⟨n, fun m hm => by simp only [stepA, stepE, this.1, this.2, hn m hm]⟩
      · cases he
    | _ => cases hx
end
end Go.AM

/- A region runs as its trees say. -/
set_option linter.unusedVariables false
set_option linter.unusedSimpArgs false
namespace Go.AM
section
variable {T : Nat → Option Fn} {A : Sl} {H : Heap} {σ : Sg} {sl : List V}
theorem guard_wants (I : Inv1 T A H σ sl) {g : Option (Nat × Bool)} {c : Bool} (h : evE T A H (gP σ g) = some (.bool c)) : wants sl g = some c := by
  cases g with
  | none =>
    simp only [gP, evE] at h
    injection h with h
    injection h with h
    subst h; rfl
  | some p =>
    obtain ⟨g, b⟩ := p
    have key : ∀ {e : E} {c : Bool}, (∀ v, evE T A H e = some v → sl.getD g .undef = v) → evE T A H (if b then e else eNot e) = some (.bool c) → wants sl (some (g, b)) = some c := by
      intro e c hv he
      cases b with
      | true =>
        rw [if_pos rfl] at he
        simp only [wants, hv _ he]
        cases c <;> rfl
      | false =>
        rw [if_neg (by simp)] at he
        simp only [wants, hv _ (evE_not_inv he)]
        cases c <;> rfl
    simp only [gP] at h
    split at h
    · rename_i e π hl
      obtain ⟨c0, h1, h2, h3⟩ := I.ent g _ _ hl
      rw [evE_and h1] at h
      cases c0 with
      | true =>
        rw [if_pos rfl] at h
        refine key (fun v hv => ?_) h
        rw [h2 rfl] at hv
        injection hv
      | false =>
        rw [if_neg (by simp)] at h
        injection h with h
        injection h with h
        subst h
        simp only [wants, h3 rfl]
    · rename_i hl
      have h' : evE T A H (if b = true then E.s g else eNot (E.s g)) = some (V.bool c) := by cases b <;> exact h
      refine key (fun v hv => ?_) h'
      simp only [evE] at hv
      obtain ⟨k1, k2⟩ := kn_some hv
      rcases I.out g hl with k | k
      · exact absurd k k2
      · rw [← k, k1]
theorem getD_set {sl : List V} {d i : Nat} {v : V} (hd : d < sl.length) : (sl.set d v).getD i .undef = if d = i then v else sl.getD i .undef := by
  by_cases e : d = i
  · subst e; simp [List.getD, hd]
  · rw [if_neg e]; simp [List.getD, List.getElem?_set_ne e]
theorem Inv1.put (I : Inv1 T A H σ sl) {d : Option Nat} (hd : dstLt sl.length d = true) {e π : E} {c : Bool} {v : V} (hp : evE T A H π = some (.bool c)) (h1 : c = true → evE T A H e = some v) (h2 : c = false → v = .tup []) : Inv1 T A H (pushS d (e, π) σ) (putD sl d v) := by
  cases d with
  | none => exact I
  | some d =>
    simp only [dstLt, decide_eq_true_eq] at hd
    refine ⟨fun i hi => ?_, fun i e' π' hi => ?_⟩
    · simp only [pushS, lk] at hi
      split at hi
      · cases hi
      · rename_i hne
        simp only [putD]
        rw [getD_set hd, if_neg hne]
        exact I.out i hi
    · simp only [pushS, lk] at hi
      simp only [putD]
      rw [getD_set hd]
      split at hi
      · rename_i he
        injection hi with hi
        injection hi with hi hi'
        subst hi; subst hi'
        rw [if_pos he]
        exact ⟨c, hp, h1, h2⟩
      · rename_i hne
        rw [if_neg hne]
        exact I.ent i _ _ hi
theorem get_ins {i j : Nat} {v : V} : ∀ {A : Sl}, get (ins i v A) j = if i = j then v else get A j
  | [] => by simp only [ins, get]
  | (k, w) :: r => by
    simp only [ins]
    cases h1 : Nat.beq i k with
    | true =>
      have e := Nat.eq_of_beq_eq_true h1
      subst e
      simp only [cond_true, get]
      by_cases e : i = j
      · simp only [if_pos e]
      · simp only [if_neg e]
    | false =>
      have hne := Nat.ne_of_beq_eq_false h1
      simp only [cond_false]
      cases h2 : Nat.ble i k with
      | true => simp only [cond_true, get]
      | false =>
        simp only [cond_false, get]
        by_cases e : k = j
        · subst e
          simp only [if_true]
          rw [if_neg hne]
        · simp only [if_neg e]
          exact get_ins
theorem get_keepM {m : Mask} {i : Nat} : ∀ {A : Sl}, get (keepM m A) i = .undef ∨ (m.testBit i = true ∧ get (keepM m A) i = get A i)
  | [] => .inl rfl
  | (k, w) :: r => by
    simp only [keepM]
    cases h : m.testBit k with
    | true =>
      simp only [cond_true, get]
      by_cases e : k = i
      · subst e; simp only [if_true]; exact .inr ⟨h, trivial⟩
      · simp only [if_neg e]; exact get_keepM
    | false =>
      simp only [cond_false, get]
      by_cases e : k = i
      · subst e
        rcases get_keepM (m := m) (i := k) (A := r) with h1 | ⟨h1, _⟩
        · exact .inl h1
        · rw [h] at h1; cases h1
      · simp only [if_neg e]; exact get_keepM
theorem flush_low (I : Inv1 T A H σ sl) {m : Mask} {B : Sl} {i : Nat} (hm : m.testBit i = true) (hB : lk σ i = none → get B i = .undef ∨ get B i = sl.getD i .undef) : ∀ {τ : Sg} {seen : List Nat} {ds : List (Nat × E)} {ws : List V}, (∀ j, seen.contains j = false → lk τ j = lk σ j) → (seen.contains i = true → get B i = .undef ∨ get B i = sl.getD i .undef ∨ True) → flushG m τ seen = some ds → evEs T A H (ds.map (·.2)) = some ws → (seen.contains i = false → get (putL (ds.map (·.1)) ws B) i = .undef ∨ get (putL (ds.map (·.1)) ws B) i = sl.getD i .undef)
  | [], seen, ds, ws, hl, _, hf, he, hs => by
    simp only [flushG] at hf
    injection hf with hf
    subst hf
    exact hB (by rw [← hl i hs]; rfl)
  | (j, e, π) :: r, seen, ds, ws, hl, _, hf, he, hs => by
    simp only [flushG] at hf
    have hl' : ∀ k, (j :: seen).contains k = false → lk r k = lk σ k := fun k hk => by
      simp only [List.contains_cons, Bool.or_eq_false_iff, beq_eq_false_iff_ne, ne_eq] at hk
      rw [← hl k hk.2]
      simp only [lk]
      rw [if_neg (fun e => hk.1 e.symm)]
    by_cases hij : j = i
    · subst hij
      rw [hm, hs] at hf
      simp only [Bool.not_false, Bool.and_self, if_true] at hf
      split at hf
      · rename_i ht
        simp only [Option.map_eq_some_iff] at hf
        obtain ⟨ds', h1, rfl⟩ := hf
        simp only [List.map_cons, evEs] at he
        split at he
        · rename_i v hv
          split at he
          · rename_i vs hvs
            injection he with he
            subst he
            have ht := eBeq_eq _ _ ht
            subst ht
            have hlk : lk σ j = some (e, TT) := by rw [← hl j hs]; simp only [lk, if_true]
            obtain ⟨c, k1, k2, _⟩ := I.ent j _ _ hlk
            rw [evE_TT] at k1
            injection k1 with k1
            injection k1 with k1
            have k2 := k2 k1.symm
            rw [hv] at k2
            injection k2 with k2
            simp only [List.map_cons, putL, get_ins, if_true]
            exact .inr k2
          · cases he
        · cases he
      · cases hf
    · have hs' : (j :: seen).contains i = false := by
        simp only [List.contains_cons, hs, Bool.or_false, beq_eq_false_iff_ne, ne_eq]
        exact fun e => hij e.symm
      split at hf
      · split at hf
        · simp only [Option.map_eq_some_iff] at hf
          obtain ⟨ds', h1, rfl⟩ := hf
          simp only [List.map_cons, evEs] at he
          split at he
          · rename_i v hv
            split at he
            · rename_i vs hvs
              injection he with he
              subst he
              simp only [List.map_cons, putL, get_ins, if_neg hij]
              exact flush_low I hm hB hl' (fun _ => .inr (.inr trivial)) h1 hvs hs'
            · cases he
          · cases he
        · cases hf
      · exact flush_low I hm hB hl' (fun _ => .inr (.inr trivial)) hf he hs'
/-- What is laid and kept is true of the slots. -/
theorem lay_low (I : Inv1 T A H σ sl) {m : Mask} {ds : List (Nat × E)} {ws : List V} (hf : flush σ m = some ds) (he : evEs T A H (ds.map (·.2)) = some ws) (i : Nat) : get (keepM m (putL (ds.map (·.1)) ws A)) i = .undef ∨ get (keepM m (putL (ds.map (·.1)) ws A)) i = sl.getD i .undef := by
  rcases get_keepM (m := m) (A := putL (ds.map (·.1)) ws A) (i := i) with h | ⟨h1, h2⟩
  · exact .inl h
  · rw [h2]; exact flush_low I h1 (fun h => I.out i h) (fun _ _ => rfl) (fun _ => .inr (.inr trivial)) hf he rfl
theorem stepX_run (I : Inv1 T A H σ sl) {o : AOp} {x : XOp} {xs : List Opd} {es : List E} {vs : List V} {v : V} {H' : Heap} (hx : XOp.of o = some (x, xs)) (ho : opdEs σ TT xs = some es) (he : evEs T A H es = some vs) (hs : stepX T x vs H v H') : ∃ n, ∀ m, n ≤ m → stepA (callN T m) (ev sl) H o = some (v, H') := by
  have hv := opd_vals I evE_TT ho he
  cases o with
  | p o => cases hx
  | r o => cases hx
  | l o =>
    simp only [XOp.of, Option.some.injEq, Prod.mk.injEq] at hx
    obtain ⟨rfl, rfl⟩ := hx
    obtain ⟨y, h1, rfl⟩ := hs
    rw [← hv, stepL_canon] at h1
    exact ⟨0, fun m _ => by simp only [stepA, h1]; rfl⟩
  | e o =>
    cases o with
    | call f ys =>
      simp only [XOp.of, Option.some.injEq, Prod.mk.injEq] at hx
      obtain ⟨rfl, rfl⟩ := hx
      obtain ⟨n, hn⟩ := Ans.stepC hs
      exact ⟨n, fun m hm => by simp only [stepA, stepE, hv, hn m hm]⟩
    | callv g ys =>
      simp only [XOp.of, Option.some.injEq, Prod.mk.injEq] at hx
      obtain ⟨rfl, rfl⟩ := hx
      obtain ⟨f, p, c, zs, h1, h2⟩ := hs
      rw [h1] at hv
      simp only [List.map_cons, List.cons.injEq] at hv
      obtain ⟨n, hn⟩ := Ans.stepC h2
      exact ⟨n, fun m hm => by simp only [stepA, stepE, hv.1, hv.2, hn m hm]⟩
    | _ =>
      simp only [XOp.of, Option.some.injEq, Prod.mk.injEq] at hx
      obtain ⟨rfl, rfl⟩ := hx
      simp only [stepX] at hs
      rw [← hv, stepE_canon] at hs
      exact ⟨0, fun m _ => by
        simp only [stepA]
        rw [stepE_any (by intros; simp) (by intros; simp)]
        exact hs⟩
theorem step_plain {fx : AOp → Bool} (I : Inv1 T A H σ sl) {o : AO} (hd : dstLt sl.length o.dst = true) {e : E} (hx : exOp σ (gP σ o.guard) o.op = some e) (hD : Dfd T A H (gP σ o.guard) e) : ∃ n sl', (∀ m, n ≤ m → stepAO (callN T m) o (sl, H) = some (sl', H)) ∧ sl'.length = sl.length ∧ Inv1 T A H (pushS o.dst (e, gP σ o.guard) σ) sl' := by
  obtain ⟨c, h1, h2⟩ := hD
  have hw := guard_wants I h1
  cases c with
  | true =>
    obtain ⟨v, hv⟩ := h2 rfl
    obtain ⟨n, hn⟩ := exOp_run I h1 hx hv
    exact ⟨n, putD sl o.dst v, fun m hm => by simp only [stepAO, hw, hn m hm]; rfl, putD_len _ _ _, I.put hd h1 (fun _ => hv) (fun h => by cases h)⟩
  | false =>
    exact ⟨0, putD sl o.dst (.tup []), fun m hm => by simp only [stepAO, hw], putD_len _ _ _, I.put hd h1 (fun h => by cases h) (fun _ => rfl)⟩
theorem cln_run {fx : AOp → Bool} {lv : Mask} : ∀ {ops : List AO} {σ σ' : Sg} {bs : List BS} {A : Sl} {H : Heap} {sl : List V} {K : SS → Prop}, cln fx lv ops σ = some (bs, σ') → okOps sl.length ops = true → Inv1 T A H σ sl → wpS T bs (A, H) K →
    ∃ n sl' A' H', (∀ m, n ≤ m → runOps (callN T m) ops (sl, H) = some (sl', H')) ∧ sl'.length = sl.length ∧ Inv1 T A' H' σ' sl' ∧ K (A', H')
  | [], σ, σ', bs, A, H, sl, K, hc, ok, I, h => by
    simp only [cln] at hc
    injection hc with hc
    injection hc with h1 h2
    subst h1; subst h2
    exact ⟨0, sl, A, H, fun _ _ => rfl, rfl, I, h⟩
  | o :: r, σ, σ', bs, A, H, sl, K, hc, ok, I, h => by
    simp only [okOps, List.all_cons, Bool.and_eq_true] at ok
    simp only [cln] at hc
    split at hc
    · split at hc
      · rename_i x xs hg hx
        split at hc
        · rename_i es ds bs1 σ1 q1 q2 q3
          injection hc with hc
          injection hc with h1 h2
          subst h1; subst h2
          obtain ⟨ws, vs, v, H', k1, k2, k3, k4⟩ := h
          obtain ⟨n1, hn1⟩ := stepX_run I hx q1 k2 k3
          have hlow := lay_low I q2 k1
          have I' : Inv1 T (insD o.dst v (keepM (dropD o.dst (liveIn lv r)) (putL (ds.map (·.1)) ws A))) H' [] (putD sl o.dst v) := by
            refine ⟨fun i _ => ?_, fun i e π hi => by cases hi⟩
            generalize hB : keepM (dropD o.dst (liveIn lv r)) (putL (ds.map (·.1)) ws A) = B at hlow ⊢
            cases hdst : o.dst with
            | none => exact hlow i
            | some d =>
              rw [hdst] at ok
              simp only [dstLt, decide_eq_true_eq] at ok
              simp only [insD, putD, get_ins]
              rw [getD_set ok.1]
              by_cases e : d = i
              · simp only [if_pos e]; exact .inr trivial
              · simp only [if_neg e]; exact hlow i
          obtain ⟨n2, sl', A', H'', j1, j2, j3, j4⟩ := cln_run q3 (by rw [putD_len]; exact ok.2) I' k4
          refine ⟨max n1 n2, sl', A', H'', fun m hm => ?_, by rw [j2, putD_len], j3, j4⟩
          simp only [runOps, stepAO, hg, wants, hn1 m (by omega), Option.map_some, Option.bind_some]
          exact j1 m (by omega)
        · cases hc
      · cases hc
    · split at hc
      · rename_i e hx
        split at hc
        · rename_i bs1 σ1 q3
          injection hc with hc
          injection hc with h1 h2
          subst h1; subst h2
          obtain ⟨k1, k2⟩ := h
          obtain ⟨n1, sl1, a1, a2, a3⟩ := step_plain (fx := fx) I ok.1 hx k1
          obtain ⟨n2, sl', A', H'', j1, j2, j3, j4⟩ := cln_run q3 (by rw [a2]; exact ok.2) a3 k2
          refine ⟨max n1 n2, sl', A', H'', fun m hm => ?_, by rw [j2, a2], j3, j4⟩
          simp only [runOps, a1 m (by omega), Option.bind_some]
          exact j1 m (by omega)
        · cases hc
      · cases hc
def PH (ps : List Pend) (H : Heap) : Prop := ∀ p ∈ ps, p.1 H = true
theorem PH.again {ps : List Pend} {H : Heap} (h : PH ps H) : again ps H = true := by
  simp only [Go.AM.again, List.all_eq_true, Bool.or_eq_true]
  exact fun p hp => .inr (h p hp)
theorem PH.lower {ps : List Pend} {H : Heap} (h : PH ps H) : PH (lower ps) H := by
  intro p hp
  simp only [Go.AM.lower, List.mem_map] at hp
  obtain ⟨q, h1, rfl⟩ := hp
  exact h q h1
theorem exOp_notL {σ : Sg} {π : E} {o : AOp} {e : E} (h : exOp σ π o = some e) (q : LOp) : o ≠ .l q := by
  rintro rfl; cases h
theorem cln_draw {lv : Mask} : ∀ {ops : List AO} {ps : List Pend} {σ σ' : Sg} {bs : List BS} {A : Sl} {H : Heap} {sl : List V} {K : SS → Prop}, PH ps H → cln (fun _ => false) lv ops σ = some (bs, σ') → okOps sl.length ops = true → Inv1 T A H σ sl → wpS T bs (A, H) K →
    ∃ n sl' A' H', (∀ m, n ≤ m → runDraw (callN T m) ops ps (sl, H) = some (sl', H')) ∧ sl'.length = sl.length ∧ Inv1 T A' H' σ' sl' ∧ K (A', H')
  | [], ps, σ, σ', bs, A, H, sl, K, hp, hc, ok, I, h => by
    simp only [cln] at hc
    injection hc with hc
    injection hc with h1 h2
    subst h1; subst h2
    exact ⟨0, sl, A, H, fun _ _ => rfl, rfl, I, h⟩
  | o :: r, ps, σ, σ', bs, A, H, sl, K, hp, hc, ok, I, h => by
    simp only [okOps, List.all_cons, Bool.and_eq_true] at ok
    simp only [cln, Bool.false_eq_true, if_false] at hc
    split at hc
    · rename_i e hx
      split at hc
      · rename_i bs1 σ1 q3
        injection hc with hc
        injection hc with h1 h2
        subst h1; subst h2
        obtain ⟨k1, k2⟩ := h
        obtain ⟨n1, sl1, a1, a2, a3⟩ := step_plain (fx := fun _ => false) I ok.1 hx k1
        have hps : ∃ ps', PH ps' H ∧ ∀ m, n1 ≤ m → runDraw (callN T m) (o :: r) ps (sl, H) = runDraw (callN T m) r ps' (sl1, H) := by
          by_cases hE : isE o.op = true
          · refine ⟨lower ps, hp.lower, fun m hm => ?_⟩
            simp only [runDraw, a1 m hm, Option.bind_some, if_pos hE, if_pos hp.again]
          · refine ⟨newPend o (sl, H) (sl1, H) ++ ps, ?_, fun m hm => ?_⟩
            · intro p hp'
              rcases List.mem_append.1 hp' with h1 | h1
              · unfold newPend at h1
                split at h1
                · cases h1
                · split at h1
                  · rename_i q hq hw
                    simp only [List.mem_singleton] at h1
                    subst h1
                    simp
                  · rename_i q hq hw
                    exact absurd hq (exOp_notL hx _)
                  · cases h1
              · exact hp _ h1
            · simp only [runDraw, a1 m hm, Option.bind_some, if_neg hE]
        obtain ⟨ps', hps', hrun⟩ := hps
        obtain ⟨n2, sl', A', H'', j1, j2, j3, j4⟩ := cln_draw hps' q3 (by rw [a2]; exact ok.2) a3 k2
        exact ⟨max n1 n2, sl', A', H'', fun m hm => by rw [hrun m (by omega)]; exact j1 m (by omega), by rw [j2, a2], j3, j4⟩
      · cases hc
    · cases hc
end
end Go.AM

/- Code as trees. -/
set_option linter.unusedVariables false
set_option linter.unusedSimpArgs false
namespace Go.AM
mutual
def cov (π e π0 : E) : E → Bool
  | .s i => eBeq π0 π && eBeq (.s i) e
  | .c v => eBeq π0 π && eBeq (.c v) e
  | .p o es => (eBeq π0 π && eBeq (.p o es) e) || covL π e π0 es
  | .r o es => (eBeq π0 π && eBeq (.r o es) e) || covL π e π0 es
  | .call f es => (eBeq π0 π && eBeq (.call f es) e) || covL π e π0 es
  | .callv es => (eBeq π0 π && eBeq (.callv es) e) || covL π e π0 es
  | .and a b => (eBeq π0 π && eBeq (.and a b) e) || (cov π e π0 a || cov π e (mkAnd π0 a) b)
  | .or a b => (eBeq π0 π && eBeq (.or a b) e) || (cov π e π0 a || cov π e (mkAnd π0 (eNot a)) b)
def covL (π e π0 : E) : List E → Bool
  | [] => false
  | x :: r => cov π e π0 x || covL π e π0 r
end
section
variable {T : Nat → Option Fn} {A : Sl} {H : Heap}
theorem evEs_head {x : E} {r : List E} {vs : List V} (h : evEs T A H (x :: r) = some vs) : ∃ v ws, evE T A H x = some v ∧ evEs T A H r = some ws ∧ vs = v :: ws := by
  simp only [evEs] at h
  split at h
  · rename_i v hv
    split at h
    · rename_i ws hw
      injection h with h
      exact ⟨v, ws, hv, hw, h.symm⟩
    · cases h
  · cases h
theorem ev_args {e : E} {es : List E} (he : (∃ o, e = .p o es) ∨ (∃ o, e = .r o es) ∨ (∃ o, e = .call o es) ∨ e = .callv es) {v : V} (h : evE T A H e = some v) : ∃ vs, evEs T A H es = some vs := by
  rcases he with ⟨o, rfl⟩ | ⟨o, rfl⟩ | ⟨o, rfl⟩ | rfl <;>
  · simp only [evE] at h
    cases hs : evEs T A H es with
    | none => rw [hs] at h; cases h
    | some vs => exact ⟨vs, rfl⟩
theorem cov_self {π e π0 ef : E} {c0 : Bool} (h0 : evE T A H π0 = some (.bool c0)) (h1 : c0 = true → ∃ v, evE T A H ef = some v) (h : (eBeq π0 π && eBeq ef e) = true) : Dfd T A H π e := by
  simp only [Bool.and_eq_true] at h
  rw [← eBeq_eq _ _ h.1, ← eBeq_eq _ _ h.2]
  exact ⟨c0, h0, h1⟩
theorem path_and {π0 a : E} {c0 : Bool} (h0 : evE T A H π0 = some (.bool c0)) {p : Bool} (ha : c0 = true → evE T A H a = some (.bool p)) : evE T A H (mkAnd π0 a) = some (.bool (c0 && p)) := by
  rw [evE_and h0]
  cases c0 with
  | true => rw [if_pos rfl, ha rfl]; rfl
  | false => rfl
mutual
theorem cov_dfd {π e : E} : ∀ (ef π0 : E) (c0 : Bool), evE T A H π0 = some (.bool c0) → (c0 = true → ∃ v, evE T A H ef = some v) → cov π e π0 ef = true → Dfd T A H π e
  | .s i, π0, c0, h0, h1, h => cov_self h0 h1 h
  | .c i, π0, c0, h0, h1, h => cov_self h0 h1 h
  | .p o es, π0, c0, h0, h1, h => by
    simp only [cov, Bool.or_eq_true] at h
    rcases h with h | h
    · exact cov_self h0 h1 h
    · exact covL_dfd es π0 c0 h0 (fun hc => by obtain ⟨v, hv⟩ := h1 hc; exact ev_args (.inl ⟨o, rfl⟩) hv) h
  | .r o es, π0, c0, h0, h1, h => by
    simp only [cov, Bool.or_eq_true] at h
    rcases h with h | h
    · exact cov_self h0 h1 h
    · exact covL_dfd es π0 c0 h0 (fun hc => by obtain ⟨v, hv⟩ := h1 hc; exact ev_args (.inr (.inl ⟨o, rfl⟩)) hv) h
  | .call o es, π0, c0, h0, h1, h => by
    simp only [cov, Bool.or_eq_true] at h
    rcases h with h | h
    · exact cov_self h0 h1 h
    · exact covL_dfd es π0 c0 h0 (fun hc => by obtain ⟨v, hv⟩ := h1 hc; exact ev_args (.inr (.inr (.inl ⟨o, rfl⟩))) hv) h
  | .callv es, π0, c0, h0, h1, h => by
    simp only [cov, Bool.or_eq_true] at h
    rcases h with h | h
    · exact cov_self h0 h1 h
    · exact covL_dfd es π0 c0 h0 (fun hc => by obtain ⟨v, hv⟩ := h1 hc; exact ev_args (.inr (.inr (.inr rfl))) hv) h
  | .and a b, π0, c0, h0, h1, h => by
    simp only [cov, Bool.or_eq_true] at h
    have hab : c0 = true → ∃ p, evE T A H a = some (.bool p) ∧ (p = true → ∃ v, evE T A H b = some v) := fun hc => by
      obtain ⟨v, hv⟩ := h1 hc
      simp only [evE] at hv
      split at hv
      · rename_i hp; exact ⟨true, hp, fun _ => ⟨v, hv⟩⟩
      · rename_i hp; exact ⟨false, hp, fun h => by cases h⟩
      · cases hv
    rcases h with h | h | h
    · exact cov_self h0 h1 h
    · exact cov_dfd a π0 c0 h0 (fun hc => by obtain ⟨p, hp, _⟩ := hab hc; exact ⟨_, hp⟩) h
    · cases c0 with
      | true =>
        obtain ⟨p, hp, hb⟩ := hab rfl
        exact cov_dfd b _ _ (path_and h0 fun _ => hp) (fun hc => hb (by simpa using hc)) h
      | false => exact cov_dfd b _ _ (path_and (p := false) h0 fun hc => by cases hc) (fun hc => by cases hc) h
  | .or a b, π0, c0, h0, h1, h => by
    simp only [cov, Bool.or_eq_true] at h
    have hab : c0 = true → ∃ p, evE T A H a = some (.bool p) ∧ (p = false → ∃ v, evE T A H b = some v) := fun hc => by
      obtain ⟨v, hv⟩ := h1 hc
      simp only [evE] at hv
      split at hv
      · rename_i hp; exact ⟨false, hp, fun _ => ⟨v, hv⟩⟩
      · rename_i hp; exact ⟨true, hp, fun h => by cases h⟩
      · cases hv
    rcases h with h | h | h
    · exact cov_self h0 h1 h
    · exact cov_dfd a π0 c0 h0 (fun hc => by obtain ⟨p, hp, _⟩ := hab hc; exact ⟨_, hp⟩) h
    · cases c0 with
      | true =>
        obtain ⟨p, hp, hb⟩ := hab rfl
        exact cov_dfd b _ _ (path_and h0 fun _ => evE_not hp) (fun hc => hb (by simpa using hc)) h
      | false => exact cov_dfd b _ _ (path_and (p := false) h0 fun hc => by cases hc) (fun hc => by cases hc) h
theorem covL_dfd {π e : E} : ∀ (es : List E) (π0 : E) (c0 : Bool), evE T A H π0 = some (.bool c0) → (c0 = true → ∃ vs, evEs T A H es = some vs) → covL π e π0 es = true → Dfd T A H π e
  | [], π0, c0, h0, h1, h => by cases h
  | x :: r, π0, c0, h0, h1, h => by
    simp only [covL, Bool.or_eq_true] at h
    rcases h with h | h
    · exact cov_dfd x π0 c0 h0 (fun hc => by obtain ⟨vs, hv⟩ := h1 hc; obtain ⟨v, ws, h1, _⟩ := evEs_head hv; exact ⟨v, h1⟩) h
    · exact covL_dfd r π0 c0 h0 (fun hc => by obtain ⟨vs, hv⟩ := h1 hc; obtain ⟨v, ws, _, h1, _⟩ := evEs_head hv; exact ⟨ws, h1⟩) h
end
end
def covB (π e : E) : List BS → List E → Bool
  | [], fin => covL π e TT fin
  | .chk π' e' :: r, fin => cov π e π' e' || covB π e r fin
  | .eff ds _ _ _ es :: _, _ => covL π e TT (ds.map (·.2)) || covL π e TT es
def trivB (π : E) : E → Bool
  | .c _ => eBeq π TT
  | _ => false
def prune1 (π e : E) (fin : List E) (p : List BS) : List BS := if trivB π e || covB π e p fin then p else .chk π e :: p
def prune : List BS → List E → List BS
  | [], _ => []
  | .chk π e :: r, fin => prune1 π e fin (prune r fin)
  | .eff ds kf d o es :: r, fin => .eff ds kf d o es :: prune r fin
section
variable {T : Nat → Option Fn}
theorem covB_dfd {π e : E} {fin : List E} {K : SS → Prop} (hK : ∀ st, K st → ∃ vs, evEs T st.1 st.2 fin = some vs) : ∀ {bs : List BS} {st : SS}, wpS T bs st K → covB π e bs fin = true → Dfd T st.1 st.2 π e
  | [], st, h, hc => covL_dfd fin TT true evE_TT (fun _ => hK st h) hc
  | .chk π' e' :: r, st, h, hc => by
    simp only [covB, Bool.or_eq_true] at hc
    rcases hc with hc | hc
    · obtain ⟨c, h1, h2⟩ := h.1
      exact cov_dfd e' π' c h1 h2 hc
    · exact covB_dfd hK h.2 hc
  | .eff ds kf d o es :: r, (A, H), h, hc => by
    obtain ⟨ws, vs, v, H', h1, h2, _, _⟩ := h
    simp only [covB, Bool.or_eq_true] at hc
    rcases hc with hc | hc
    · exact covL_dfd _ TT true evE_TT (fun _ => ⟨ws, h1⟩) hc
    · exact covL_dfd _ TT true evE_TT (fun _ => ⟨vs, h2⟩) hc
theorem prune_wp {fin : List E} {K : SS → Prop} (hK : ∀ st, K st → ∃ vs, evEs T st.1 st.2 fin = some vs) : ∀ {bs : List BS} {st : SS}, wpS T (prune bs fin) st K → wpS T bs st K
  | [], st, h => h
  | .chk π e :: r, st, h => by
    simp only [prune, prune1] at h
    split at h
    · rename_i hc
      refine ⟨?_, prune_wp hK h⟩
      simp only [Bool.or_eq_true] at hc
      rcases hc with hc | hc
      · cases e <;> simp only [trivB] at hc <;> first | cases hc; done | skip
        rw [eBeq_eq _ _ hc]
        exact ⟨true, evE_TT, fun _ => ⟨_, rfl⟩⟩
      · exact covB_dfd hK h hc
    · exact ⟨h.1, prune_wp hK h.2⟩
  | .eff ds kf d o es :: r, (A, H), h => by
    obtain ⟨ws, vs, v, H', h1, h2, h3, h4⟩ := h
    exact ⟨ws, vs, v, H', h1, h2, h3, prune_wp hK h4⟩
end
inductive BC where
  | skip
  | stuck
  | reg (bs : List BS) (lv : Mask) (ds : List (Nat × E))
  | ife (bs : List BS) (lv : Mask) (ds : List (Nat × E)) (z : E) (a b : BC)
  | raw (lv : Mask) (ops : List AO)
  | rawc (lv : Mask) (ops : List AO) (z : Opd) (a b : BC)
  | seq (a b : BC)
  | block (id : Nat) (c : BC)
  | loop (c : BC)
  | exit (id : Nat)
  | ret
def dsEq : List (Nat × E) → List (Nat × E) → Bool
  | [], [] => true
  | (i, a) :: r, (j, b) :: t => i == j && (eBeq a b && dsEq r t)
  | _, _ => false
theorem dsEq_eq : ∀ {a b : List (Nat × E)}, dsEq a b = true → a = b
  | [], [], _ => rfl
  | (i, a) :: r, (j, b) :: t, h => by
    simp only [dsEq, Bool.and_eq_true, beq_iff_eq] at h
    rw [h.1, eBeq_eq _ _ h.2.1, dsEq_eq h.2.2]
  | [], _ :: _, h => by cases h
  | _ :: _, [], h => by cases h
def bsEq : List BS → List BS → Bool
  | [], [] => true
  | .chk a b :: r, .chk c d :: t => eBeq a c && (eBeq b d && bsEq r t)
  | .eff ds kf d o es :: r, .eff ds' kf' d' o' es' :: t => dsEq ds ds' && (kf == kf' && (d == d' && (decide (o = o') && (eBeqs es es' && bsEq r t))))
  | _, _ => false
theorem bsEq_eq : ∀ {a b : List BS}, bsEq a b = true → a = b
  | [], [], _ => rfl
  | .chk a b :: r, .chk c d :: t, h => by
    simp only [bsEq, Bool.and_eq_true] at h
    rw [eBeq_eq _ _ h.1, eBeq_eq _ _ h.2.1, bsEq_eq h.2.2]
  | .eff ds kf d o es :: r, .eff ds' kf' d' o' es' :: t, h => by
    simp only [bsEq, Bool.and_eq_true, beq_iff_eq, decide_eq_true_eq] at h
    obtain ⟨h1, h2, h3, h4, h5, h6⟩ := h
    rw [dsEq_eq h1, h2, h3, h4, eBeqs_eq _ _ h5, bsEq_eq h6]
  | [], .chk _ _ :: _, h => by cases h
  | [], .eff .. :: _, h => by cases h
  | .chk _ _ :: _, [], h => by cases h
  | .eff .. :: _, [], h => by cases h
  | .chk _ _ :: _, .eff .. :: _, h => by cases h
  | .eff .. :: _, .chk _ _ :: _, h => by cases h
/-- A region's trees, and the slots that are laid at its end. -/
def okReg (fx : AOp → Bool) (ops : List AO) (bs : List BS) (lv : Mask) (ds : List (Nat × E)) : Bool :=
  match cln fx lv ops [] with
  | some (bs0, σ) => match flush σ lv with
    | some ds0 => bsEq bs (prune bs0 (ds0.map (·.2))) && dsEq ds ds0
    | none => false
  | none => false
def okRegc (fx : AOp → Bool) (ops : List AO) (bs : List BS) (lv : Mask) (ds : List (Nat × E)) (z : Opd) (e : E) : Bool :=
  match cln fx (match z with | .t i => madd lv i | .c _ => lv) ops [] with
  | some (bs0, σ) => match flush σ lv, opdE σ TT z with
    | some ds0, some e0 => eBeq e e0 && (bsEq bs (prune bs0 (e0 :: ds0.map (·.2))) && dsEq ds ds0)
    | _, _ => false
  | none => false
def nrm : AM.C → AM.C
  | .seq a b => match nrm b with
    | .seq (.cond z x y) c => match nrm a with
      | .reg ops => .seq (.seq (.reg ops) (.cond z x y)) c
      | .draw ops => .seq (.seq (.draw ops) (.cond z x y)) c
      | a' => .seq a' (.seq (.cond z x y) c)
    | b' => .seq (nrm a) b'
  | .cond z a b => .cond z (nrm a) (nrm b)
  | .block id c => .block id (nrm c)
  | .loop c => .loop (nrm c)
  | c => c
def fno : AOp → Bool := fun _ => false
def mtch (fx : AOp → Bool) : AM.C → BC → Bool
  | .skip, .skip => true
  | .stuck, .stuck => true
  | .reg ops, .reg bs lv ds => okReg fx ops bs lv ds
  | .draw ops, .reg bs lv ds => okReg fno ops bs lv ds
  | .draw ops, .raw _ ops' => decide (ops = ops')
  | .reg ops, .raw _ ops' => decide (ops = ops') && ops.all fun o => o.re == 0
  | .seq (.reg ops) (.cond z a b), .ife bs lv ds e a' b' => okRegc fx ops bs lv ds z e && (mtch fx a a' && mtch fx b b')
  | .seq (.draw ops) (.cond z a b), .ife bs lv ds e a' b' => okRegc fno ops bs lv ds z e && (mtch fx a a' && mtch fx b b')
  | .seq (.draw ops) (.cond z a b), .rawc _ ops' z' a' b' => decide (ops = ops') && (decide (z = z') && (mtch fx a a' && mtch fx b b'))
  | .cond z a b, .ife bs lv ds e a' b' => okRegc fx [] bs lv ds z e && (mtch fx a a' && mtch fx b b')
  | .seq a b, .seq a' b' => mtch fx a a' && mtch fx b b'
  | .block i c, .block j c' => i == j && mtch fx c c'
  | .loop c, .loop c' => mtch fx c c'
  | .exit i, .exit j => i == j
  | .ret, .ret => true
  | _, _ => false
end Go.AM

/- Walking over trees. -/
set_option linter.unusedVariables false
set_option linter.unusedSimpArgs false
namespace Go.AM
theorem okC_nrm (N : Nat) : ∀ c : AM.C, okC N (nrm c) = okC N c := by
  intro c
  induction c with
  | seq a b iha ihb =>
    simp only [nrm]
    split
    · rename_i z x y c hb
      rw [hb] at ihb
      split
      · rename_i ops ha
        rw [ha] at iha
        simp only [okC] at iha ihb ⊢
        rw [← iha, ← ihb, Bool.and_assoc]
      · rename_i ops ha
        rw [ha] at iha
        simp only [okC] at iha ihb ⊢
        rw [← iha, ← ihb, Bool.and_assoc]
      · simp only [okC] at iha ihb ⊢
        rw [iha, ← ihb]
    · simp only [okC]
      rw [iha, ihb]
  | cond z a b iha ihb => simp only [nrm, okC, iha, ihb]
  | block id c ih => simp only [nrm, okC, ih]
  | loop c ih => simp only [nrm, okC, ih]
  | _ => rfl
theorem seq_assoc {call : CallF} {n : Nat} (a b c : AM.C) (st : St) : runC call n (.seq (.seq a b) c) st = runC call n (.seq a (.seq b c)) st := by
  simp only [runC]
  cases ha : runC call n a st with
  | none => rfl
  | some p =>
    obtain ⟨x, s⟩ := p
    cases x <;> rfl
theorem runC_nrm {call : CallF} {n : Nat} : ∀ (c : AM.C) (st : St), runC call n (nrm c) st = runC call n c st := by
  intro c
  induction c with
  | seq a b iha ihb =>
    intro st
    have h0 : runC call n (.seq (nrm a) (nrm b)) st = runC call n (.seq a b) st := by
      simp only [runC, iha]
      split
      · exact ihb _
      · rfl
    rw [← h0]
    simp only [nrm]
    split
    · rename_i z x y c hb
      rw [hb]
      split
      · rename_i ops ha; rw [ha, seq_assoc]
      · rename_i ops ha; rw [ha, seq_assoc]
      · rfl
    · rfl
  | cond z a b iha ihb =>
    intro st
    simp only [nrm, runC, iha, ihb]
  | block id c ih => intro st; simp only [nrm, runC, ih]
  | loop c ih =>
    intro st
    simp only [nrm, runC]
    rw [show runC call n (nrm c) = runC call n c from funext ih]
  | _ => intro st; rfl
theorem W_nrm {T : Nat → Option Fn} {ks : List Nat} {c : AM.C} {st : SS} {Q : X → SS → Prop} (h : W T ks (nrm c) st Q) : W T ks c st Q := fun sl ok L => by
  obtain ⟨n, x, sl', H', h1, h2⟩ := h sl (by rw [okC_nrm]; exact ok) L
  exact ⟨n, x, sl', H', by rw [← runC_nrm]; exact h1, h2⟩
abbrev FX := AOp → Bool
/-- Codes in turn. -/
def WB (T : Nat → Option Fn) (fx : FX) : List BC → SS → (X → SS → Prop) → Prop
  | [], st, Q => Q .norm st
  | b :: r, st, Q => ∀ c, mtch fx c b = true → W T [] c st fun x st' => match x with | .norm => WB T fx r st' Q | .exit j => Q (.exit j) st' | .ret => Q .ret st'
def bkQ (T : Nat → Option Fn) (fx : FX) (id : Nat) (r : List BC) (Q : X → SS → Prop) : X → SS → Prop
  | .norm, st => WB T fx r st Q
  | .exit j, st => if j = id then WB T fx r st Q else Q (.exit j) st
  | .ret, st => Q .ret st
section
variable {T : Nat → Option Fn} {fx : FX} {r : List BC} {st : SS} {Q : X → SS → Prop}
theorem wb_seq {a b : BC} (h : WB T fx (a :: b :: r) st Q) : WB T fx (.seq a b :: r) st Q := by
  intro c hm
  cases c with
  | seq c1 c2 =>
    have hm' : mtch fx c1 a = true ∧ mtch fx c2 b = true := by
      rw [← Bool.and_eq_true]
      cases c1 <;> cases c2 <;> simpa only [mtch] using hm
    refine W.seq (W.mono (h c1 hm'.1) fun x st' h => ?_)
    cases x with
    | norm => exact h c2 hm'.2
    | exit j => exact h
    | ret => exact h
  | _ => simp [mtch] at hm
theorem wb_skip (h : WB T fx r st Q) : WB T fx (.skip :: r) st Q := by
  intro c hm
  cases c with
  | skip => exact W.skip h
  | seq a b => cases a <;> cases b <;> simp [mtch] at hm
  | _ => simp [mtch] at hm
theorem wb_ret (h : Q .ret st) : WB T fx (.ret :: r) st Q := by
  intro c hm
  cases c with
  | ret => exact W.ret h
  | seq a b => cases a <;> cases b <;> simp [mtch] at hm
  | _ => simp [mtch] at hm
theorem wb_exit {id : Nat} (h : Q (.exit id) st) : WB T fx (.exit id :: r) st Q := by
  intro c hm
  cases c with
  | exit j => simp only [mtch, beq_iff_eq] at hm; subst hm; exact W.exit h
  | seq a b => cases a <;> cases b <;> simp [mtch] at hm
  | _ => simp [mtch] at hm
theorem wb_block {id : Nat} {b : BC} (h : WB T fx [b] st (bkQ T fx id r Q)) : WB T fx (.block id b :: r) st Q := by
  intro c hm
  cases c with
  | block j c =>
    simp only [mtch, Bool.and_eq_true, beq_iff_eq] at hm
    obtain ⟨rfl, hm⟩ := hm
    refine W.block (W.mono (h c hm) fun x st' h => ?_)
    cases x with
    | norm => exact h
    | ret => exact h
    | exit k =>
      simp only [bkQ] at h
      by_cases e : k = j
      · rw [if_pos e] at h; simp only [if_pos e]; exact h
      · rw [if_neg e] at h; simp only [if_neg e]; exact h
  | seq a b => cases a <;> cases b <;> simp [mtch] at hm
  | _ => simp [mtch] at hm
def lpB (I : Nat → SS → Prop) (m : Nat) (Q : X → SS → Prop) : X → SS → Prop
  | .norm, st => ∃ k, k < m ∧ I k st
  | .exit j, st => Q (.exit j) st
  | .ret, st => Q .ret st
theorem wb_loop (I : Nat → SS → Prop) (m : Nat) {b : BC} (h0 : I m st) (h : ∀ m st, I m st → WB T fx [b] st (lpB I m Q)) : WB T fx (.loop b :: r) st Q := by
  intro c hm
  cases c with
  | loop c =>
    simp only [mtch] at hm
    refine W.loop (Q := fun x st' => match x with | .norm => WB T fx r st' Q | .exit j => Q (.exit j) st' | .ret => Q .ret st') I h0 fun m st hi => ?_
    refine W.mono (h m st hi c hm) fun x st' h => ?_
    cases x <;> exact h
  | seq a b => cases a <;> cases b <;> simp [mtch] at hm
  | _ => simp [mtch] at hm
theorem keepM_low {A : Sl} {sl : List V} (L : Low A sl) (m : Mask) : Low (keepM m A) sl := fun i => by
  rcases get_keepM (m := m) (A := A) (i := i) with h | ⟨_, h⟩
  · exact .inl h
  · rw [h]; exact L i
theorem inv_low {A : Sl} {H : Heap} {sl : List V} (L : Low A sl) : Inv1 T A H [] sl := ⟨fun i _ => L i, fun i e π h => by cases h⟩
/-- What a region does. -/
def regK (T : Nat → Option Fn) (bs : List BS) (lv : Mask) (ds : List (Nat × E)) (z : List E) (st : SS) (K : List V → SS → Prop) : Prop :=
  wpS T bs st fun st' => ∃ zs ws, evEs T st'.1 st'.2 z = some zs ∧ evEs T st'.1 st'.2 (ds.map (·.2)) = some ws ∧ K zs (keepM lv (putL (ds.map (·.1)) ws st'.1), st'.2)
theorem ok_reg {ops : List AO} {bs : List BS} {lv : Mask} {ds : List (Nat × E)} (h : okReg fx ops bs lv ds = true) : ∃ bs0 σ, cln fx lv ops [] = some (bs0, σ) ∧ flush σ lv = some ds ∧ bs = prune bs0 (ds.map (·.2)) := by
  unfold okReg at h
  split at h
  · rename_i bs0 σ h1
    split at h
    · rename_i ds0 h2
      simp only [Bool.and_eq_true] at h
      have e2 := dsEq_eq h.2
      subst e2
      exact ⟨bs0, σ, h1, h2, bsEq_eq h.1⟩
    · cases h
  · cases h
theorem ok_regc {ops : List AO} {bs : List BS} {lv : Mask} {ds : List (Nat × E)} {z : Opd} {e : E} (h : okRegc fx ops bs lv ds z e = true) : ∃ lv' bs0 σ, cln fx lv' ops [] = some (bs0, σ) ∧ flush σ lv = some ds ∧ opdE σ TT z = some e ∧ bs = prune bs0 (e :: ds.map (·.2)) := by
  unfold okRegc at h
  split at h
  · rename_i bs0 σ h1
    split at h
    · rename_i ds0 e0 h2 h3
      simp only [Bool.and_eq_true] at h
      have e2 := dsEq_eq h.2.2
      subst e2
      have e1 := eBeq_eq _ _ h.1
      subst e1
      exact ⟨_, bs0, σ, h1, h2, h3, bsEq_eq h.2.1⟩
    · cases h
  · cases h
theorem evs_two {A : Sl} {H : Heap} {z d : List E} {zs ws : List V} (h1 : evEs T A H z = some zs) (h2 : evEs T A H d = some ws) : evEs T A H (z ++ d) = some (zs ++ ws) := by
  induction z generalizing zs with
  | nil => simp only [evEs] at h1; injection h1 with h1; subst h1; exact h2
  | cons x r ih =>
    obtain ⟨v, vs, k1, k2, rfl⟩ := evEs_head h1
    simp only [List.cons_append, evEs, k1, ih k2]
theorem reg_run {ops : List AO} {bs : List BS} {lv : Mask} {ds : List (Nat × E)} {K : SS → Prop} (hk : okReg fx ops bs lv ds = true) (h : regK T bs lv ds [] st fun _ => K) {sl : List V} (ok : okOps sl.length ops = true) (L : Low st.1 sl) : ∃ n sl' A' H', (∀ m, n ≤ m → runOps (callN T m) ops (sl, st.2) = some (sl', H')) ∧ sl'.length = sl.length ∧ Low A' sl' ∧ K (A', H') := by
  obtain ⟨bs0, σ, h1, h2, rfl⟩ := ok_reg hk
  unfold regK at h
  have h' := prune_wp (by rintro st' ⟨zs, ws, _, hw, _⟩; exact ⟨ws, hw⟩) h
  obtain ⟨n, sl', A', H', k1, k2, k3, zs, ws, k4, k5, k6⟩ := cln_run h1 ok (inv_low L) h'
  exact ⟨n, sl', _, H', k1, k2, lay_low k3 h2 k5, k6⟩
theorem draw_run {ops : List AO} {bs : List BS} {lv : Mask} {ds : List (Nat × E)} {K : SS → Prop} (hk : okReg fno ops bs lv ds = true) (h : regK T bs lv ds [] st fun _ => K) {sl : List V} (ok : okOps sl.length ops = true) (L : Low st.1 sl) : ∃ n sl' A' H', (∀ m, n ≤ m → runDraw (callN T m) ops [] (sl, st.2) = some (sl', H')) ∧ sl'.length = sl.length ∧ Low A' sl' ∧ K (A', H') := by
  obtain ⟨bs0, σ, h1, h2, rfl⟩ := ok_reg hk
  unfold regK at h
  have h' := prune_wp (by rintro st' ⟨zs, ws, _, hw, _⟩; exact ⟨ws, hw⟩) h
  obtain ⟨n, sl', A', H', k1, k2, k3, zs, ws, k4, k5, k6⟩ := cln_draw (show PH [] st.2 from fun _ h => by cases h) h1 ok (inv_low L) h'
  exact ⟨n, sl', _, H', k1, k2, lay_low k3 h2 k5, k6⟩
theorem evs_one {A : Sl} {H : Heap} {z : E} {zs : List V} (h : evEs T A H [z] = some zs) : ∃ v, evE T A H z = some v ∧ zs = [v] := by
  obtain ⟨v, ws, h1, h2, rfl⟩ := evEs_head h
  simp only [evEs] at h2
  injection h2 with h2
  subst h2
  exact ⟨v, h1, rfl⟩
theorem regc_run {ops : List AO} {bs : List BS} {lv : Mask} {ds : List (Nat × E)} {z : Opd} {e : E} {K : V → SS → Prop} (hk : okRegc fx ops bs lv ds z e = true) (h : regK T bs lv ds [e] st fun zs st' => ∃ v, zs = [v] ∧ K v st') {sl : List V} (ok : okOps sl.length ops = true) (L : Low st.1 sl) : ∃ n sl' A' H', (∀ m, n ≤ m → runOps (callN T m) ops (sl, st.2) = some (sl', H')) ∧ sl'.length = sl.length ∧ Low A' sl' ∧ K (ev sl' z) (A', H') := by
  obtain ⟨lv', bs0, σ, h1, h2, h3, rfl⟩ := ok_regc hk
  unfold regK at h
  have h' := prune_wp (fin := e :: ds.map (·.2)) (by
    rintro st' ⟨zs, ws, hz, hw, _⟩
    obtain ⟨v, hv, _⟩ := evs_one hz
    exact ⟨v :: ws, by simp only [evEs, hv, hw]⟩) h
  obtain ⟨n, sl', A', H', k1, k2, k3, zs, ws, k4, k5, v, rfl, k6⟩ := cln_run h1 ok (inv_low L) h'
  obtain ⟨v', hv, hv'⟩ := evs_one k4
  injection hv' with hv' _
  subst hv'
  rw [← opd_val k3 evE_TT h3 hv] at k6
  exact ⟨n, sl', _, H', k1, k2, lay_low k3 h2 k5, k6⟩
theorem drawc_run {ops : List AO} {bs : List BS} {lv : Mask} {ds : List (Nat × E)} {z : Opd} {e : E} {K : V → SS → Prop} (hk : okRegc fno ops bs lv ds z e = true) (h : regK T bs lv ds [e] st fun zs st' => ∃ v, zs = [v] ∧ K v st') {sl : List V} (ok : okOps sl.length ops = true) (L : Low st.1 sl) : ∃ n sl' A' H', (∀ m, n ≤ m → runDraw (callN T m) ops [] (sl, st.2) = some (sl', H')) ∧ sl'.length = sl.length ∧ Low A' sl' ∧ K (ev sl' z) (A', H') := by
  obtain ⟨lv', bs0, σ, h1, h2, h3, rfl⟩ := ok_regc hk
  unfold regK at h
  have h' := prune_wp (fin := e :: ds.map (·.2)) (by
    rintro st' ⟨zs, ws, hz, hw, _⟩
    obtain ⟨v, hv, _⟩ := evs_one hz
    exact ⟨v :: ws, by simp only [evEs, hv, hw]⟩) h
  obtain ⟨n, sl', A', H', k1, k2, k3, zs, ws, k4, k5, v, rfl, k6⟩ := cln_draw (show PH [] st.2 from fun _ h => by cases h) h1 ok (inv_low L) h'
  obtain ⟨v', hv, hv'⟩ := evs_one k4
  injection hv' with hv' _
  subst hv'
  rw [← opd_val k3 evE_TT h3 hv] at k6
  exact ⟨n, sl', _, H', k1, k2, lay_low k3 h2 k5, k6⟩
theorem wb_reg {bs : List BS} {lv : Mask} {ds : List (Nat × E)} (h : regK T bs lv ds [] st fun _ st' => WB T fx r st' Q) : WB T fx (.reg bs lv ds :: r) st Q := by
  intro c hm sl ok L
  cases c with
  | reg ops =>
    simp only [mtch] at hm
    obtain ⟨n, sl', A', H', k1, k2, k3, k4⟩ := reg_run hm h ok L
    exact ⟨n, .norm, sl', H', by simp only [runC, k1 n (Nat.le_refl n), Option.map_some], k2, A', k3, k4⟩
  | draw ops =>
    simp only [mtch] at hm
    obtain ⟨n, sl', A', H', k1, k2, k3, k4⟩ := draw_run hm h ok L
    exact ⟨n, .norm, sl', H', by simp only [runC, k1 n (Nat.le_refl n), Option.map_some], k2, A', k3, k4⟩
  | seq a b => cases a <;> cases b <;> simp [mtch] at hm
  | _ => simp [mtch] at hm
theorem wb_ife {bs : List BS} {lv : Mask} {ds : List (Nat × E)} {z : E} {a b : BC} (h : regK T bs lv ds [z] st fun zs st' => ∃ t, zs = [.bool t] ∧ (t = true → WB T fx (a :: r) st' Q) ∧ (t = false → WB T fx (b :: r) st' Q)) : WB T fx (.ife bs lv ds z a b :: r) st Q := by
  have h' : regK T bs lv ds [z] st fun zs st' => ∃ v, zs = [v] ∧ ∃ t, v = .bool t ∧ (t = true → WB T fx (a :: r) st' Q) ∧ (t = false → WB T fx (b :: r) st' Q) :=
    wpS_mono T (fun st' ⟨zs, ws, h1, h2, t, h3, h4⟩ => ⟨zs, ws, h1, h2, _, h3, t, rfl, h4⟩) h
  intro c hm sl ok L
  have fin : ∀ {ca cb : AM.C} {z : Opd} {s1 : List V} {A1 : Sl} {H1 : Heap} {call : Nat → AM.C}, mtch fx ca a = true → mtch fx cb b = true → okC s1.length ca = true → okC s1.length cb = true → Low A1 s1 →
      (∃ t, ev s1 z = .bool t ∧ (t = true → WB T fx (a :: r) (A1, H1) Q) ∧ (t = false → WB T fx (b :: r) (A1, H1) Q)) →
      ∃ n x s2 H2, runC (callN T n) n (.cond z ca cb) (s1, H1) = some (x, (s2, H2)) ∧ s2.length = s1.length ∧ ∃ A', Low A' s2 ∧ (match x with | .norm => WB T fx r (A', H2) Q | .exit j => Q (.exit j) (A', H2) | .ret => Q .ret (A', H2)) := by
    intro ca cb z s1 A1 H1 _ ha hb oka okb L1 ⟨t, ht, h1, h2⟩
    cases t with
    | true =>
      obtain ⟨n, x, s2, H2, q1, q2, A2, q3, q4⟩ := h1 rfl ca ha s1 oka L1
      exact ⟨n, x, s2, H2, by simp only [runC, ht, q1], q2, A2, q3, q4⟩
    | false =>
      obtain ⟨n, x, s2, H2, q1, q2, A2, q3, q4⟩ := h2 rfl cb hb s1 okb L1
      exact ⟨n, x, s2, H2, by simp only [runC, ht, q1], q2, A2, q3, q4⟩
  cases c with
  | cond z' ca cb =>
    simp only [mtch, Bool.and_eq_true] at hm
    simp only [okC, Bool.and_eq_true] at ok
    obtain ⟨n, s1, A1, H1, k1, k2, k3, k4⟩ := regc_run hm.1 h' (sl := sl) rfl L
    have e := k1 n (Nat.le_refl n)
    simp only [runOps, Option.some.injEq, Prod.mk.injEq] at e
    obtain ⟨rfl, e⟩ := e
    rw [← e] at k4
    exact fin (call := fun _ => .skip) hm.2.1 hm.2.2 ok.1 ok.2 k3 k4
  | seq c1 c2 =>
    cases c2 with
    | cond z' ca cb =>
      cases c1 with
      | reg ops =>
        simp only [mtch, Bool.and_eq_true] at hm
        simp only [okC, Bool.and_eq_true] at ok
        obtain ⟨n, s1, A1, H1, k1, k2, k3, k4⟩ := regc_run hm.1 h' ok.1 L
        obtain ⟨m, x, s2, H2, q1, q2, q3⟩ := fin (call := fun _ => .skip) hm.2.1 hm.2.2 (by rw [k2]; exact ok.2.1) (by rw [k2]; exact ok.2.2) k3 k4
        exact ⟨n + m, x, s2, H2, by
          rw [runC]
          simp only [runC, k1 (n + m) (Nat.le_add_right n m), Option.map_some]
          exact runC_le' (Nat.le_add_left m n) q1, by rw [q2, k2], q3⟩
      | draw ops =>
        simp only [mtch, Bool.and_eq_true] at hm
        simp only [okC, Bool.and_eq_true] at ok
        obtain ⟨n, s1, A1, H1, k1, k2, k3, k4⟩ := drawc_run hm.1 h' ok.1 L
        obtain ⟨m, x, s2, H2, q1, q2, q3⟩ := fin (call := fun _ => .skip) hm.2.1 hm.2.2 (by rw [k2]; exact ok.2.1) (by rw [k2]; exact ok.2.2) k3 k4
        exact ⟨n + m, x, s2, H2, by
          rw [runC]
          simp only [runC, k1 (n + m) (Nat.le_add_right n m), Option.map_some]
          exact runC_le' (Nat.le_add_left m n) q1, by rw [q2, k2], q3⟩
      | _ => simp [mtch] at hm
    | _ => cases c1 <;> simp [mtch] at hm
  | _ => simp [mtch] at hm
/-- A region in order, as one that draws. -/
theorem draw_ops {call : CallF} : ∀ {ops : List AO} {st : St}, (ops.all fun o => o.re == 0) = true → runDraw call ops [] st = runOps call ops st
  | [], st, _ => rfl
  | o :: r, st, h => by
    simp only [List.all_cons, Bool.and_eq_true, beq_iff_eq] at h
    simp only [runDraw, runOps]
    congr 1
    funext st'
    have hn : newPend o st st' = [] := by unfold newPend; rw [if_pos h.1]
    rw [hn]
    by_cases hE : isE o.op = true
    · rw [if_pos hE]
      exact draw_ops h.2
    · rw [if_neg hE]
      exact draw_ops h.2
theorem wb_raw {lv : Mask} {ops : List AO} (h : drawK T ops [] st fun st' => WB T fx r (keepM lv st'.1, st'.2) Q) : WB T fx (.raw lv ops :: r) st Q := by
  intro c hm
  cases c with
  | draw ops' =>
    simp only [mtch, decide_eq_true_eq] at hm
    subst hm
    intro sl ok L
    obtain ⟨n, sl', H', h1, h2, A', h3, h4⟩ := drawK_run ok .nil L h
    exact ⟨n, .norm, sl', H', by simp [runC, h1], h2, _, keepM_low h3 lv, h4⟩
  | reg ops' =>
    simp only [mtch, Bool.and_eq_true, decide_eq_true_eq] at hm
    obtain ⟨rfl, hre⟩ := hm
    intro sl ok L
    obtain ⟨n, sl', H', h1, h2, A', h3, h4⟩ := drawK_run ok .nil L h
    exact ⟨n, .norm, sl', H', by simp only [runC]; rw [← draw_ops hre, h1]; rfl, h2, _, keepM_low h3 lv, h4⟩
  | seq a b => cases a <;> cases b <;> simp [mtch] at hm
  | _ => simp [mtch] at hm
theorem wb_rawc {lv : Mask} {ops : List AO} {z : Opd} {a b : BC} (h : drawK T ops [] st fun st' => ∃ t, evS st'.1 z = .bool t ∧ (t = true → WB T fx (a :: r) (keepM lv st'.1, st'.2) Q) ∧ (t = false → WB T fx (b :: r) (keepM lv st'.1, st'.2) Q)) : WB T fx (.rawc lv ops z a b :: r) st Q := by
  intro c hm
  cases c with
  | seq c1 c2 =>
    cases c2 with
    | cond z' ca cb =>
      cases c1 with
      | draw ops' =>
        simp only [mtch, Bool.and_eq_true, decide_eq_true_eq] at hm
        obtain ⟨rfl, rfl, ha, hb⟩ := hm
        intro sl ok L
        simp only [okC, Bool.and_eq_true] at ok
        obtain ⟨n, s1, H1, h1, hl, A1, L1, t, ht, h2, h3⟩ := drawK_run ok.1 .nil L h
        have hz : ev s1 z' = .bool t := by
          rcases L1.ev z' with h | h
          · rw [h] at ht; cases ht
          · rw [← h]; exact ht
        cases t with
        | true =>
          obtain ⟨m, x, s2, H2, k1, k2, A2, L2, k4⟩ := h2 rfl ca ha s1 (by rw [hl]; exact ok.2.1) (keepM_low L1 lv)
          exact ⟨n + m, x, s2, H2, by simp only [runC, runDraw_mono (callN_mono T (Nat.le_add_right n m)) h1, Option.map_some, hz]; exact runC_le' (Nat.le_add_left m n) k1, by rw [k2, hl], A2, L2, k4⟩
        | false =>
          obtain ⟨m, x, s2, H2, k1, k2, A2, L2, k4⟩ := h3 rfl cb hb s1 (by rw [hl]; exact ok.2.2) (keepM_low L1 lv)
          exact ⟨n + m, x, s2, H2, by simp only [runC, runDraw_mono (callN_mono T (Nat.le_add_right n m)) h1, Option.map_some, hz]; exact runC_le' (Nat.le_add_left m n) k1, by rw [k2, hl], A2, L2, k4⟩
      | _ => simp [mtch] at hm
    | _ => cases c1 <;> simp [mtch] at hm
  | _ => simp [mtch] at hm
end
/-- What a function is, told shortly. -/
structure BF where
  np : Nat
  pure : Bool
  rm : RM
  res : List Res
  body : BC
def resEq : List Res → List Res → Bool
  | [], [] => true
  | .t i :: r, .t j :: s => i == j && resEq r s
  | .cell i a :: r, .cell j b :: s => i == j && (decide (a = b) && resEq r s)
  | _, _ => false
theorem resEq_eq : ∀ {a b : List Res}, resEq a b = true → a = b
  | [], [], _ => rfl
  | .t i :: r, .t j :: s, h => by
    simp only [resEq, Bool.and_eq_true, beq_iff_eq] at h
    rw [h.1, resEq_eq h.2]
  | .cell i a :: r, .cell j b :: s, h => by
    simp only [resEq, Bool.and_eq_true, beq_iff_eq, decide_eq_true_eq] at h
    rw [h.1, h.2.1, resEq_eq h.2.2]
  | [], _ :: _, h => by simp [resEq] at h
  | _ :: _, [], h => by simp [resEq] at h
  | .t _ :: _, .cell _ _ :: _, h => by simp [resEq] at h
  | .cell _ _ :: _, .t _ :: _, h => by simp [resEq] at h
def bfOk (fx : FX) (f : AF) (b : BF) : Bool :=
  f.np == b.np && (f.pure == b.pure && (decide (f.rm = b.rm) && (resEq f.res b.res && (okC (f.np + (f.nt - f.np)) f.body && mtch fx (nrm f.body) b.body))))
section
variable {T : Nat → Option Fn} {fx : FX}
theorem ansB_pure {f : Nat} {af : AF} {np : Nat} {rm : RM} {res : List Res} {body : BC} (ht : T f = some (.code af)) (hb : bfOk fx af ⟨np, true, rm, res, body⟩ = true) {xs ds : List V} {H : Heap} {v : V} {H' : Heap} (hn : xs.length = np) (hm : ¬ ((rm = .froz ∨ rm = .own) ∧ ¬ xs.all V.data = true)) (hd : xs.mapM (deep H 8) = some ds)
    (h : WB T fx [body] (argS 0 ds, []) fun x st => (x = .norm ∨ x = .ret) ∧ ∃ u, resS res st = some u ∧ fin rm u st.2 H = some (v, H')) : Ans T f xs H v H' := by
  simp only [bfOk, Bool.and_eq_true, beq_iff_eq, decide_eq_true_eq] at hb
  obtain ⟨h1, h2, h3, h4, h5, h6⟩ := hb
  have h4 := resEq_eq h4
  refine Ans.pure [] ht (by rw [h1]; exact hn) h2 h5 (by rw [h3]; exact hm) hd (W_nrm (W.mono (h _ h6) fun x st' h => ?_))
  rw [h3, h4]
  cases x <;> exact h
theorem ansB_code {f : Nat} {af : AF} {np : Nat} {rm : RM} {res : List Res} {body : BC} (ht : T f = some (.code af)) (hb : bfOk fx af ⟨np, false, rm, res, body⟩ = true) {xs : List V} {H : Heap} {v : V} {H' : Heap} (hn : xs.length = np)
    (h : WB T fx [body] (argS 0 xs, H) fun x st => (x = .norm ∨ x = .ret) ∧ resS res st = some v ∧ st.2 = H') : Ans T f xs H v H' := by
  simp only [bfOk, Bool.and_eq_true, beq_iff_eq, decide_eq_true_eq] at hb
  obtain ⟨h1, h2, h3, h4, h5, h6⟩ := hb
  have h4 := resEq_eq h4
  refine Ans.code [] ht (by rw [h1]; exact hn) h2 h5 (W_nrm (W.mono (h _ h6) fun x st' h => ?_))
  rw [h4]
  cases x <;> exact h
end
end Go.AM

/- Short words for trees, and the table. -/
set_option linter.unusedVariables false
set_option linter.unusedSimpArgs false
namespace Go.AM.B
abbrev x (i : Nat) : E := .s i
abbrev k (n : Int) : E := .c (.int .i64 n)
abbrev kb (b : Bool) : E := .c (.bool b)
abbrev kc (n : Int) : E := .c (.int .u8 n)
abbrev bn (o : BinOp) (a b : E) : E := .p (.bin o (.t 0) (.t 1)) [a, b]
abbrev lt (a b : E) : E := .p (.bin .lss (.t 0) (.t 1)) [a, b]
abbrev le (a b : E) : E := .p (.bin .leq (.t 0) (.t 1)) [a, b]
abbrev gt (a b : E) : E := .p (.bin .gtr (.t 0) (.t 1)) [a, b]
abbrev ge (a b : E) : E := .p (.bin .geq (.t 0) (.t 1)) [a, b]
abbrev eq (a b : E) : E := .p (.bin .eql (.t 0) (.t 1)) [a, b]
abbrev ne (a b : E) : E := .p (.bin .neq (.t 0) (.t 1)) [a, b]
abbrev add (a b : E) : E := .p (.bin .add (.t 0) (.t 1)) [a, b]
abbrev sub (a b : E) : E := .p (.bin .sub (.t 0) (.t 1)) [a, b]
abbrev nt (a : E) : E := .p (.un .not (.t 0)) [a]
abbrev len (a : E) : E := .p (.len false (.t 0)) [a]
abbrev sln (a : E) : E := .p (.len true (.t 0)) [a]
abbrev ia (s : Nat) (a i : E) : E := .p (.iad s (.t 0) (.t 1)) [a, i]
abbrev fa (o : Nat) (a : E) : E := .p (.fad o (.t 0)) [a]
abbrev ix (a i : E) : E := .p (.ixs (.t 0) (.t 1)) [a, i]
abbrev xt (a : E) (i : Nat) : E := .p (.ext (.t 0) i) [a]
abbrev ld (a : E) : E := .r (.load ⟨false, 1⟩ (.t 0)) [a]
abbrev ldn (n : Nat) (a : E) : E := .r (.load ⟨true, n⟩ (.t 0)) [a]
abbrev nk (a : E) : E := .p (.nilck (.t 0)) [a]
abbrev ck (e : E) : BS := .chk TT e
abbrev sto (n : Nat) : XOp := .e (.store n (.t 0) (.t 1))
abbrev apd (s : Nat) (fl : Bool) (b : Nat) : XOp := .e (.app s fl b (.t 0) (.t 1))
abbrev one (s : Nat) (fl : Bool) (z : List V) : XOp := .l (.mks s fl z 1 [(0, .t 0)])
abbrev alo (s : Nat) (fl : Bool) (z : V) : XOp := .l (.alloc s fl z)
abbrev box (s : Nat) (fl : Bool) : XOp := .l (.box s fl (.t 0))
end Go.AM.B
namespace Go.AM
/-- What changes memory: the named functions, and, where it is said so, calls of values. -/
def fxE (L : List Nat) (cv : Bool) : FX := fun o => match o with
  | .l _ => true
  | .e (.call f _) => L.contains f
  | .e (.callv _ _) => cv
  | .e _ => true
  | _ => false
/-- A table's row: a function as trees, or one from elsewhere. -/
inductive Row where
  | fn (cv : Bool) (b : BF)
  | ext (g : List V → Heap → Option (V × Heap))
def lookR : List (Nat × Row) → Nat → Option Row
  | [], _ => none
  | (i, x) :: r, f => if i = f then some x else lookR r f
def tblOf (P : Program) (t : List (Nat × Row)) (f : Nat) : Option Fn := match lookR t f with
  | some (.fn _ b) => (compFn P f b.pure b.rm).map .code
  | some (.ext g) => some (.ext g)
  | none => none
def rowOk (P : Program) (L : List Nat) (f : Nat) (cv : Bool) (b : BF) : Bool := match compFn P f b.pure b.rm with
  | some af => canCall P f && bfOk (fxE L cv) af b
  | none => false
/-- What is asked of one from elsewhere. -/
def ExtOk (P : Program) (f : Nat) (g : List V → Heap → Option (V × Heap)) : Prop := canCall P f = true ∧ ∀ args H v H', g args H = some (v, H') → H.length ≤ H'.length ∧ ∀ (μ : Mu) (S : Nat → Prop) (w : World) (cargs : Array Value), Inv μ S H w → VRels μ S w args cargs.toList →
      Calls P f cargs w fun e w' => ∃ cv μ' S', e = .returned cv ∧ VRel μ' S' w' v cv ∧ Inv μ' S' H' w' ∧ Ext μ S H w μ' S' H' w'
def RowOk (P : Program) (L : List Nat) (f : Nat) : Row → Prop
  | .fn cv b => rowOk P L f cv b = true
  | .ext g => ExtOk P f g
inductive AllR (P : Program) (L : List Nat) : List (Nat × Row) → Prop where
  | nil : AllR P L []
  | cons {f : Nat} {x : Row} {r : List (Nat × Row)} : RowOk P L f x → AllR P L r → AllR P L ((f, x) :: r)
theorem AllR.look {P : Program} {L : List Nat} {t : List (Nat × Row)} (h : AllR P L t) : ∀ {f : Nat} {x : Row}, lookR t f = some x → RowOk P L f x := by
  induction h with
  | nil => intro f x h; cases h
  | cons h0 _ ih =>
    intro f x h
    simp only [lookR] at h
    split at h
    · rename_i e
      injection h with h
      subst e; subst h; exact h0
    · exact ih h
theorem tblOf_ok {P : Program} {L : List Nat} {t : List (Nat × Row)} (h : AllR P L t) : TblOK P (tblOf P t) := by
  intro f fn hf
  unfold tblOf at hf
  split at hf
  · rename_i cv b hl
    have := h.look hl
    simp only [RowOk, rowOk] at this
    split at this
    · rename_i af ha
      rw [ha] at hf
      injection hf with hf
      subst hf
      simp only [Bool.and_eq_true] at this
      obtain ⟨h1, h2⟩ := this
      simp only [bfOk, Bool.and_eq_true, beq_iff_eq, decide_eq_true_eq] at h2
      refine ⟨h1, ?_⟩
      show compFn P f af.pure af.rm = some af
      rw [h2.2.1, h2.2.2.1]
      exact ha
    · cases this
  · rename_i g hl
    injection hf with hf
    subst hf
    exact h.look hl
  · cases hf
section
variable {P : Program} {L : List Nat} {t : List (Nat × Row)}
theorem AllR.fn (h : AllR P L t) {f : Nat} {cv : Bool} {b : BF} (hl : lookR t f = some (.fn cv b)) : ∃ af, tblOf P t f = some (.code af) ∧ bfOk (fxE L cv) af b = true := by
  have := h.look hl
  simp only [RowOk, rowOk] at this
  split at this
  · rename_i af ha
    simp only [Bool.and_eq_true] at this
    exact ⟨af, by simp only [tblOf, hl, ha]; rfl, this.2⟩
  · cases this
theorem rowP (h : AllR P L t) {f : Nat} {cv : Bool} {np : Nat} {rm : RM} {res : List Res} {body : BC} (hl : lookR t f = some (.fn cv ⟨np, true, rm, res, body⟩)) {xs ds : List V} {H : Heap} {v : V} {H' : Heap} (hn : xs.length = np) (hm : ¬ ((rm = .froz ∨ rm = .own) ∧ ¬ xs.all V.data = true)) (hd : xs.mapM (deep H 8) = some ds)
    (hw : WB (tblOf P t) (fxE L cv) [body] (argS 0 ds, []) fun x st => (x = .norm ∨ x = .ret) ∧ ∃ u, resS res st = some u ∧ fin rm u st.2 H = some (v, H')) : Ans (tblOf P t) f xs H v H' := by
  obtain ⟨af, h1, h2⟩ := h.fn hl
  exact ansB_pure h1 h2 hn hm hd hw
theorem rowC (h : AllR P L t) {f : Nat} {cv : Bool} {np : Nat} {rm : RM} {res : List Res} {body : BC} (hl : lookR t f = some (.fn cv ⟨np, false, rm, res, body⟩)) {xs : List V} {H : Heap} {v : V} {H' : Heap} (hn : xs.length = np)
    (hw : WB (tblOf P t) (fxE L cv) [body] (argS 0 xs, H) fun x st => (x = .norm ∨ x = .ret) ∧ resS res st = some v ∧ st.2 = H') : Ans (tblOf P t) f xs H v H' := by
  obtain ⟨af, h1, h2⟩ := h.fn hl
  exact ansB_code h1 h2 hn hw
theorem rowX {f : Nat} {g : List V → Heap → Option (V × Heap)} (hl : lookR t f = some (.ext g)) {xs : List V} {H : Heap} {v : V} {H' : Heap} (h : g xs H = some (v, H')) : Ans (tblOf P t) f xs H v H' :=
  ⟨1, by simp only [callN, tblOf, hl, h]⟩
end
end Go.AM

/- What is known of memory, and what expressions are worth by it. -/
set_option linter.unusedVariables false
set_option linter.unusedSimpArgs false
namespace Go.AM
/-- One of a list. -/
def nth {α : Type} [Inhabited α] (xs : List α) (i : Nat) : α := xs.getD i default
theorem nth_eq {α : Type} [Inhabited α] {xs : List α} {i : Nat} (h : i < xs.length) : nth xs i = xs[i] := by simp [nth, List.getD, h]
/-- What names a slice of one's own. -/
inductive Hd where
  | nil
  | ref (id s n : Nat)
def Hd.v : Hd → V
  | .nil => .nil
  | .ref id s n => .ref id s 0 n
def Hd.ids : Hd → List Nat
  | .nil => []
  | .ref id _ _ => [id]
theorem Hd.cells (g : Hd) : g.v.cells = [g.v] := by cases g <;> rfl
theorem Hd.sc (g : Hd) : g.v.sc = true := by cases g <;> rfl
theorem Hd.flat1 (g : Hd) : g.v.flat1 = false := by cases g <;> rfl
theorem Hd.known (g : Hd) : g.v.known = true := by cases g <;> rfl
/-- A thing in memory: an object, or a slice of one's own. -/
inductive HE where
  | ob (id : Nat) (o : O)
  | own (g : Hd) (s : Nat) (fl : Bool) (xs : List V)
def HE.ids : HE → List Nat
  | .ob id _ => [id]
  | .own g _ _ _ => g.ids
def HE.holds (H : Heap) : HE → Prop
  | .ob id o => H[id]? = some o
  | .own g s fl xs => (g = .nil ∧ xs = []) ∨ ∃ id, g = .ref id s xs.length ∧ H[id]? = some (.row s fl xs)
structure HP (H : Heap) (L : List HE) : Prop where
  all : ∀ e ∈ L, e.holds H
  nd : (L.flatMap HE.ids).Nodup
theorem HP.nil (H : Heap) : HP H [] := ⟨by simp, by simp⟩
theorem rowAt_of {H : Heap} {id s : Nat} {fl : Bool} {xs : List V} (h : H[id]? = some (.row s fl xs)) : rowAt H id s = some (fl, xs) := by simp [rowAt, h]
def V.isD : V → Bool
  | .bool _ | .int _ _ | .str _ | .lst _ => true
  | .agg cs => cs.all V.dsc
  | _ => false
section
variable (T : Nat → Option Fn) (A : Sl) (L : List HE)
def Ev (e : E) (v : V) : Prop := ∀ H, HP H L → evE T A H e = some v
def EvL (es : List E) (vs : List V) : Prop := ∀ H, HP H L → evEs T A H es = some vs
/-- What is read to its depth. -/
def Dp (k : Nat) (v d : V) : Prop := ∀ H, HP H L → deep H k v = some d
def Dps (k : Nat) (vs ds : List V) : Prop := ∀ H, HP H L → vs.mapM (deep H k) = some ds
end
/-- A pure function's answer; fr: its arguments are data. -/
def PC (T : Nat → Option Fn) (f : Nat) (ds : List V) (fr : Bool) (v : V) : Prop := ∀ xs H, xs.mapM (deep H 8) = some ds → (fr = true → xs.all V.data = true) → Ans T f xs H v H
class PCon (T : Nat → Option Fn) (f : Nat) (ds : List V) (fr : outParam Bool) (P : outParam Prop) (v : outParam V) : Prop where
  con : P → PC T f ds fr v
section
variable {T : Nat → Option Fn} {A : Sl} {L : List HE}
theorem ev_s {i : Nat} {v : V} (h : get A i = v) (hk : v.known = true) : Ev T A L (.s i) v := fun H _ => by
  simp only [evE, h]
  cases v <;> first | rfl | cases hk
theorem ev_c {v : V} : Ev T A L (.c v) v := fun _ _ => rfl
theorem ev_nil : EvL T A L [] [] := fun _ _ => rfl
theorem ev_cons {e : E} {es : List E} {v : V} {vs : List V} (h : Ev T A L e v) (hs : EvL T A L es vs) : EvL T A L (e :: es) (v :: vs) := fun H hp => by
  simp only [evEs, h H hp, hs H hp]
theorem ev_and {a b : E} {p q : Bool} (ha : Ev T A L a (.bool p)) (hb : p = true → Ev T A L b (.bool q)) : Ev T A L (.and a b) (.bool (p && q)) := fun H hp => by
  simp only [evE, ha H hp]
  cases p with
  | true => simp only [hb rfl H hp]; rfl
  | false => rfl
theorem ev_or {a b : E} {p q : Bool} (ha : Ev T A L a (.bool p)) (hb : p = false → Ev T A L b (.bool q)) : Ev T A L (.or a b) (.bool (p || q)) := fun H hp => by
  simp only [evE, ha H hp]
  cases p with
  | true => rfl
  | false => simp only [hb rfl H hp]; rfl
/-- Any operation, by its operands. -/
theorem ev_p {o : POp} {es : List E} {vs : List V} {v : V} (hs : EvL T A L es vs) (h : stepP (evl vs) o = some v) : Ev T A L (.p o es) v := fun H hp => by
  simp only [evE, hs H hp, h]
theorem ev_1 {o : POp} {a : E} {x v : V} (ha : Ev T A L a x) (h : stepP (evl [x]) o = some v) : Ev T A L (.p o [a]) v := ev_p (ev_cons ha ev_nil) h
theorem ev_2 {o : POp} {a b : E} {x y v : V} (ha : Ev T A L a x) (hb : Ev T A L b y) (h : stepP (evl [x, y]) o = some v) : Ev T A L (.p o [a, b]) v := ev_p (ev_cons ha (ev_cons hb ev_nil)) h
section
variable {a b : E} {k : IntKind} {m n : Int}
theorem ev_not {p : Bool} (ha : Ev T A L a (.bool p)) : Ev T A L (B.nt a) (.bool (!p)) := ev_1 ha rfl
theorem bin_of {o : BinOp} (hs : isShift o = false) (ha : Ev T A L a (.int k m)) (hb : Ev T A L b (.int k n)) {v : V} (h : binI o k m n = some v) : Ev T A L (B.bn o a b) v :=
  ev_2 ha hb (by simp only [stepP, evl, List.getD_cons_zero, List.getD_cons_succ, stepBin, hs, Bool.false_eq_true, if_false, if_true, h])
theorem ev_lt (ha : Ev T A L a (.int k m)) (hb : Ev T A L b (.int k n)) : Ev T A L (B.lt a b) (.bool (decide (m < n))) := bin_of rfl ha hb rfl
theorem ev_le (ha : Ev T A L a (.int k m)) (hb : Ev T A L b (.int k n)) : Ev T A L (B.le a b) (.bool (decide (m ≤ n))) := bin_of rfl ha hb rfl
theorem ev_gt (ha : Ev T A L a (.int k m)) (hb : Ev T A L b (.int k n)) : Ev T A L (B.gt a b) (.bool (decide (n < m))) := bin_of rfl ha hb rfl
theorem ev_ge (ha : Ev T A L a (.int k m)) (hb : Ev T A L b (.int k n)) : Ev T A L (B.ge a b) (.bool (decide (n ≤ m))) := bin_of rfl ha hb rfl
theorem ev_eq (ha : Ev T A L a (.int k m)) (hb : Ev T A L b (.int k n)) : Ev T A L (B.eq a b) (.bool (decide (m = n))) := bin_of rfl ha hb rfl
theorem ev_ne (ha : Ev T A L a (.int k m)) (hb : Ev T A L b (.int k n)) : Ev T A L (B.ne a b) (.bool (!decide (m = n))) := bin_of rfl ha hb rfl
theorem ev_eqs {s t : List UInt8} (ha : Ev T A L a (.str s)) (hb : Ev T A L b (.str t)) : Ev T A L (B.eq a b) (.bool (decide (s = t))) := ev_2 ha hb rfl
theorem ev_nes {s t : List UInt8} (ha : Ev T A L a (.str s)) (hb : Ev T A L b (.str t)) : Ev T A L (B.ne a b) (.bool (!decide (s = t))) := ev_2 ha hb rfl
theorem w64 {n : Int} (h : -9223372036854775808 ≤ n ∧ n ≤ 9223372036854775807) : IntKind.i64.wrap n = n := by rw [IntKind.wrap_i64]; omega
/-- A number counted on. -/
theorem ev_inc {i : Nat} (ha : Ev T A L a (.int .i64 (i : Nat))) (h : i < 9223372036854775807) : Ev T A L (B.add a (B.k 1)) (.int .i64 ((i + 1 : Nat) : Int)) :=
  bin_of rfl ha ev_c (by simp only [binI]; rw [w64 (by omega)]; rfl)
theorem ev_addn {i j : Nat} (ha : Ev T A L a (.int .i64 (i : Nat))) (hb : Ev T A L b (.int .i64 (j : Nat))) (h : i + j < 9223372036854775808) : Ev T A L (B.add a b) (.int .i64 ((i + j : Nat) : Int)) :=
  bin_of rfl ha hb (by simp only [binI]; rw [w64 (by omega)]; rfl)
theorem ev_add (ha : Ev T A L a (.int .i64 m)) (hb : Ev T A L b (.int .i64 n)) (h : -9223372036854775808 ≤ m + n ∧ m + n ≤ 9223372036854775807) : Ev T A L (B.add a b) (.int .i64 (m + n)) :=
  bin_of rfl ha hb (by simp only [binI]; rw [w64 h])
theorem ev_sub (ha : Ev T A L a (.int .i64 m)) (hb : Ev T A L b (.int .i64 n)) (h : -9223372036854775808 ≤ m - n ∧ m - n ≤ 9223372036854775807) : Ev T A L (B.sub a b) (.int .i64 (m - n)) :=
  bin_of rfl ha hb (by simp only [binI]; rw [w64 h])
theorem ev_adds {s t : List UInt8} (ha : Ev T A L a (.str s)) (hb : Ev T A L b (.str t)) (h : s.length + t.length ≤ 4611686018427387904) : Ev T A L (B.add a b) (.str (s ++ t)) :=
  ev_2 ha hb (by simp only [stepP, evl, List.getD_cons_zero, List.getD_cons_succ, stepBin, binS]; rw [if_pos (show s.length + t.length ≤ maxStr from h)])
theorem ev_sln {s : List UInt8} (ha : Ev T A L a (.str s)) : Ev T A L (B.sln a) (.int .i64 (s.length : Nat)) := ev_1 ha rfl
theorem ev_len {xs : List V} (ha : Ev T A L a (.lst xs)) : Ev T A L (B.len a) (.int .i64 (xs.length : Nat)) := ev_1 ha rfl
theorem ev_lenm {α : Type} {f : α → V} {xs : List α} (ha : Ev T A L a (.lst (xs.map f))) : Ev T A L (B.len a) (.int .i64 (xs.length : Nat)) := by
  have := ev_len ha; rw [List.length_map] at this; exact this
theorem ev_len0 (ha : Ev T A L a .nil) : Ev T A L (B.len a) (.int .i64 ((0 : Nat) : Int)) := ev_1 ha rfl
theorem ev_leno {g : Hd} {s : Nat} {fl : Bool} {xs : List V} (ha : Ev T A L a g.v) (hm : HE.own g s fl xs ∈ L) : Ev T A L (B.len a) (.int .i64 (xs.length : Nat)) := fun H hp => by
  have h1 := ha H hp
  simp only [evE, evEs, h1]
  rcases hp.all _ hm with ⟨rfl, rfl⟩ | ⟨id, rfl, _⟩ <;> rfl
theorem ixOf_in {len : Nat} (h : 0 ≤ n ∧ n < (len : Int)) : ixOf (.int k n) len = some n.toNat := by simp only [ixOf, if_pos h]
theorem ixOf_nat {i len : Nat} (h : i < len) : ixOf (.int k (i : Nat)) len = some i := by
  rw [ixOf_in (by omega)]; rfl
variable {α : Type} [Inhabited α] {f : α → V} {xs : List α} {s : Nat}
theorem getI {α : Type} [Inhabited α] {xs : List α} {i : Nat} (h : i < xs.length) : xs[i]? = some (nth xs i) := by
  rw [List.getElem?_eq_getElem h, nth_eq h]
theorem ev_ia {i : Nat} (ha : Ev T A L a (.lst (xs.map f))) (hi : Ev T A L b (.int k (i : Nat))) (h : i < xs.length) (hc : ∀ y, (f y).cells.length = s) : Ev T A L (B.ia s a b) (.cptr (f (nth xs i)).cells) :=
  ev_2 ha hi (by
    simp only [stepP, evl, List.getD_cons_zero, List.getD_cons_succ, List.length_map, ixOf_nat h, List.getElem?_map, getI h, Option.map_some, Option.bind_eq_bind, Option.bind_some, hc, if_true])
theorem ev_iz (ha : Ev T A L a (.lst (xs.map f))) (hi : Ev T A L b (.int k n)) (h : 0 ≤ n ∧ n < (xs.length : Int)) (hc : ∀ y, (f y).cells.length = s) : Ev T A L (B.ia s a b) (.cptr (f (nth xs n.toNat)).cells) := by
  obtain ⟨i, rfl⟩ : ∃ i : Nat, n = (i : Nat) := ⟨n.toNat, by omega⟩
  exact ev_ia ha hi (by omega) hc
theorem ev_ix {t : List UInt8} {i : Nat} (ha : Ev T A L a (.str t)) (hi : Ev T A L b (.int k (i : Nat))) (h : i < t.length) : Ev T A L (B.ix a b) (.int .u8 ((nth t i).toNat : Nat)) :=
  ev_2 ha hi (by
    simp only [stepP, evl, List.getD_cons_zero, List.getD_cons_succ, ixOf_nat h, getI h, Option.bind_eq_bind, Option.bind_some])
theorem ev_izs {t : List UInt8} (ha : Ev T A L a (.str t)) (hi : Ev T A L b (.int k n)) (h : 0 ≤ n ∧ n < (t.length : Int)) : Ev T A L (B.ix a b) (.int .u8 ((nth t n.toNat).toNat : Nat)) := by
  obtain ⟨i, rfl⟩ : ∃ i : Nat, n = (i : Nat) := ⟨n.toNat, by omega⟩
  exact ev_ix ha hi (by omega)
theorem ev_fa {cs : List V} {o : Nat} (ha : Ev T A L a (.cptr cs)) (h : Nat.blt o cs.length = true) : Ev T A L (B.fa o a) (.cptr (cs.drop o)) :=
  ev_1 ha (by simp only [stepP, evl, List.getD_cons_zero]; rw [if_pos (by simpa [Nat.blt_eq] using h)])
theorem ev_fap {id s i fo o : Nat} (ha : Ev T A L a (.ptr id s i fo)) : Ev T A L (B.fa o a) (.ptr id s i (fo + o)) := ev_1 ha rfl
theorem ev_r1 {o : ROp} {x v : V} (ha : Ev T A L a x) (h : ∀ H, HP H L → stepR (evl [x]) H o = some v) : Ev T A L (.r o [a]) v := fun H hp => by
  simp only [evE, evEs, ha H hp, h H hp]
theorem ev_ldc {cs : List V} {sh : Sh} {v : V} (ha : Ev T A L a (.cptr cs)) (h : part sh cs 0 = some v) : Ev T A L (.r (.load sh (.t 0)) [a]) v := ev_r1 ha fun H _ => h
theorem ev_ldp {sh : Sh} {id s i fo : Nat} {fl : Bool} {ys : List V} {x v : V} (ha : Ev T A L a (.ptr id s i fo)) (hm : HE.ob id (.row s fl ys) ∈ L) (hx : ys[i]? = some x) (h : part sh x.cells fo = some v) : Ev T A L (.r (.load sh (.t 0)) [a]) v := ev_r1 ha fun H hp => by
  have := hp.all _ hm
  simp only [HE.holds] at this
  simp only [stepR, evl, List.getD_cons_zero, rowAt_of this, Option.bind_eq_bind, Option.bind_some, hx, h]
theorem ev_xt {vs : List V} {i : Nat} {v : V} (ha : Ev T A L a (.tup vs)) (h : vs[i]? = some v) : Ev T A L (B.xt a i) v := ev_1 ha (by simp only [stepP, evl, List.getD_cons_zero, h])
theorem ev_nkp {id s i fo : Nat} (ha : Ev T A L a (.ptr id s i fo)) : Ev T A L (B.nk a) (.ptr id s i fo) := ev_1 ha rfl
theorem ev_nkc {cs : List V} (ha : Ev T A L a (.cptr cs)) : Ev T A L (B.nk a) (.cptr cs) := ev_1 ha rfl
/-- One of a slice of one's own. -/
theorem own_at {g : Hd} {ys : List V} {fl : Bool} {i : Nat} {H : Heap} (ho : (HE.own g s fl ys).holds H) (h : i < ys.length) : ∃ id, g = .ref id s ys.length ∧ H[id]? = some (.row s fl ys) := by
  rcases ho with ⟨_, rfl⟩ | h1
  · cases h
  · exact h1
theorem ev_lo {g : Hd} {fl : Bool} {i : Nat} {sh : Sh} {w : V} (ha : Ev T A L a g.v) (hm : HE.own g s fl (xs.map f) ∈ L) (hi : Ev T A L b (.int k (i : Nat))) (h : i < xs.length) (hw : part sh (f (nth xs i)).cells 0 = some w) : Ev T A L (.r (.load sh (.t 0)) [B.ia s a b]) w := fun H hp => by
  obtain ⟨id, rfl, h2⟩ := own_at (hp.all _ hm) (i := i) (by simpa using h)
  simp only [evE, evEs, ha H hp, hi H hp, Hd.v, stepP, evl, List.getD_cons_zero, List.getD_cons_succ, List.length_map, ixOf_nat h, Option.bind_eq_bind, Option.bind_some, if_true, stepR, rowAt_of h2, Nat.zero_add, List.getElem?_map, getI h, Option.map_some, hw]
theorem ev_lof {g : Hd} {fl : Bool} {i o : Nat} {sh : Sh} {w : V} (ha : Ev T A L a g.v) (hm : HE.own g s fl (xs.map f) ∈ L) (hi : Ev T A L b (.int k (i : Nat))) (h : i < xs.length) (hw : part sh (f (nth xs i)).cells o = some w) : Ev T A L (.r (.load sh (.t 0)) [B.fa o (B.ia s a b)]) w := fun H hp => by
  obtain ⟨id, rfl, h2⟩ := own_at (hp.all _ hm) (i := i) (by simpa using h)
  simp only [evE, evEs, ha H hp, hi H hp, Hd.v, stepP, evl, List.getD_cons_zero, List.getD_cons_succ, List.length_map, ixOf_nat h, Option.bind_eq_bind, Option.bind_some, if_true, stepR, rowAt_of h2, Nat.zero_add, List.getElem?_map, getI h, Option.map_some, hw]
theorem ev_conv {k' : IntKind} (ha : Ev T A L a (.int k m)) (h : k'.wrap m = m) : Ev T A L (.p (.conv k' (.t 0)) [a]) (.int k' m) := ev_1 ha (by simp only [stepP, evl, List.getD_cons_zero, h])
theorem ev_build {z : List V} {ps : List (Nat × Nat × Opd)} {es : List E} {vs cs : List V} (hs : EvL T A L es vs) (h : buildCells z (ps.map fun p => (p.1, p.2.1, evl vs p.2.2)) = some cs) : Ev T A L (.p (.build z ps) es) (.agg cs) := ev_p hs (by simp only [stepP, h, Option.map_some])
theorem ev_sls {t : List UInt8} {l h : Nat} {lo hi : Option Opd} {es : List E} {vs : List V} (hs : EvL T A L es (.str t :: vs)) (hh : bdOf (hi.map (evl (.str t :: vs))) t.length t.length = some h) (hl : bdOf (lo.map (evl (.str t :: vs))) 0 h = some l) : Ev T A L (.p (.sls (.t 0) lo hi) es) (.str ((t.drop l).take (h - l))) :=
  ev_p hs (by simp only [stepP]; rw [show evl (.str t :: vs) (.t 0) = .str t from rfl]; simp only [hh, Option.bind_eq_bind, Option.bind_some, hl])
end
/-! Reading to the depth. -/
theorem mapM_self {H : Heap} {n : Nat} : ∀ {cs : List V}, cs.all V.dsc = true → cs.mapM (deep H (n + 1)) = some cs
  | [], _ => rfl
  | c :: r, h => by
    simp only [List.all_cons, Bool.and_eq_true] at h
    have h1 : deep H (n + 1) c = some c := by cases c <;> first | rfl | (simp [V.dsc] at h)
    simp only [List.mapM_cons, h1, mapM_self h.2, Option.bind_eq_bind, Option.bind_some, Option.pure_def]
theorem deep_isD {H : Heap} {n : Nat} {v : V} (h : v.isD = true) : deep H (n + 2) v = some v := by
  cases v with
  | agg cs =>
    show (cs.mapM (deep H (n + 1))).map V.agg = _
    rw [mapM_self h]; rfl
  | bool _ | int _ _ | str _ | lst _ => rfl
  | _ => cases h
theorem mapM_isD {H : Heap} {n : Nat} : ∀ {cs : List V}, cs.all V.isD = true → cs.mapM (deep H (n + 2)) = some cs
  | [], _ => rfl
  | c :: r, h => by
    simp only [List.all_cons, Bool.and_eq_true] at h
    simp only [List.mapM_cons, deep_isD h.1, mapM_isD h.2, Option.bind_eq_bind, Option.bind_some, Option.pure_def]
theorem deep_ownD {H : Heap} {g : Hd} {s : Nat} {fl : Bool} {xs : List V} {n : Nat} (h : (HE.own g s fl xs).holds H) (hx : xs.all V.isD = true) : deep H (n + 3) g.v = some (.lst xs) := by
  rcases h with ⟨rfl, rfl⟩ | ⟨id, rfl, h⟩
  · rfl
  · show deep H (n + 3) (.ref id s 0 xs.length) = _
    have e : deep H (n + 3) (.ref id s 0 xs.length) = match rowAt H id s with
      | some (fl, xs') => if 0 + xs.length ≤ xs'.length then
          if fl then some (.lst ((xs'.drop 0).take xs.length)) else (((xs'.drop 0).take xs.length).mapM (deep H (n + 2))).map .lst
        else none
      | none => none := rfl
    rw [e, rowAt_of h]
    simp only [Nat.zero_add, Nat.le_refl, if_true, List.drop_zero, List.take_length]
    cases fl with
    | true => rfl
    | false => rw [mapM_isD hx]; rfl
theorem dp_d {k : Nat} {v : V} (h : v.isD = true) : Dp L (k + 2) v v := fun H _ => deep_isD h
theorem dp_nil {k : Nat} : Dp L (k + 1) .nil (.lst []) := fun H _ => rfl
theorem dp_own {k : Nat} {g : Hd} {s : Nat} {fl : Bool} {xs : List V} (hm : HE.own g s fl xs ∈ L) (hx : xs.all V.isD = true) : Dp L (k + 3) g.v (.lst xs) := fun H hp => deep_ownD (hp.all _ hm) hx
theorem all_map {α : Type} {f : α → V} {p : V → Bool} (h : ∀ y, p (f y) = true) (xs : List α) : (xs.map f).all p = true := by simp [h]
theorem dp_ownm {k : Nat} {α : Type} {f : α → V} {g : Hd} {s : Nat} {fl : Bool} {xs : List α} (hm : HE.own g s fl (xs.map f) ∈ L) (hx : ∀ y, (f y).isD = true) : Dp L (k + 3) g.v (.lst (xs.map f)) := dp_own hm (all_map hx xs)
/-- A slice of slices. -/
theorem dp_oo {k : Nat} {g : Hd} {s : Nat} {xs ds : List V} (hm : HE.own g s false xs ∈ L) (h : Dps L k xs ds) : Dp L (k + 1) g.v (.lst ds) := fun H hp => by
  rcases hp.all _ hm with ⟨rfl, rfl⟩ | ⟨id, rfl, h2⟩
  · have := h H hp
    simp only [List.mapM_nil, Option.pure_def, Option.some.injEq] at this
    subst this
    rfl
  · show (match rowAt H id s with
      | some (fl, xs') => if 0 + xs.length ≤ xs'.length then
          if fl then some (V.lst ((xs'.drop 0).take xs.length)) else (((xs'.drop 0).take xs.length).mapM (deep H k)).map V.lst
        else none
      | none => none) = _
    rw [rowAt_of h2]
    simp only [Nat.zero_add, Nat.le_refl, if_true, List.drop_zero, List.take_length, Bool.false_eq_true, if_false]
    rw [h H hp]; rfl
theorem dps_nil {k : Nat} : Dps L k [] [] := fun _ _ => rfl
theorem dps_cons {k : Nat} {v d : V} {vs ds : List V} (h : Dp L k v d) (hs : Dps L k vs ds) : Dps L k (v :: vs) (d :: ds) := fun H hp => by
  simp only [List.mapM_cons, h H hp, hs H hp, Option.bind_eq_bind, Option.bind_some, Option.pure_def]
theorem dp_agg {k : Nat} {cs ds : List V} (h : Dps L k cs ds) : Dp L (k + 1) (.agg cs) (.agg ds) := fun H hp => by
  show (cs.mapM (deep H k)).map V.agg = _
  rw [h H hp]; rfl
theorem dp_tup {k : Nat} {cs ds : List V} (h : Dps L k cs ds) : Dp L (k + 1) (.tup cs) (.tup ds) := fun H hp => by
  show (cs.mapM (deep H k)).map V.tup = _
  rw [h H hp]; rfl
/-- A pure function's call. -/
theorem ev_call {f : Nat} {es : List E} {xs ds : List V} {fr : Bool} {P : Prop} {v : V} (hs : EvL T A L es xs) (hd : Dps L 8 xs ds) (hc : PCon T f ds fr P v) (hf : fr = true → xs.all V.data = true) (hP : P) : Ev T A L (.call f es) v := fun H hp => by
  have h2 := hd H hp
  simp only [evE, hs H hp]
  exact callV_of (hc.con hP xs H h2 hf)
end
end Go.AM

/- Walking, by what is known of memory. -/
set_option linter.unusedVariables false
set_option linter.unusedSimpArgs false
namespace Go.AM
/-- A thing in memory gives way to another. -/
inductive At (e : HE) (e' : HE) : List HE → List HE → Prop where
  | here {r : List HE} : At e e' (e :: r) (e' :: r)
  | there {h : HE} {r r' : List HE} : At e e' r r' → At e e' (h :: r) (h :: r')
theorem At.mem {e e' : HE} {L L' : List HE} (h : At e e' L L') : e ∈ L := by
  induction h with
  | here => exact List.mem_cons_self
  | there _ ih => exact List.mem_cons_of_mem _ ih
theorem At.split {e e' : HE} {L L' : List HE} (h : At e e' L L') : ∃ a b, L = a ++ e :: b ∧ L' = a ++ e' :: b := by
  induction h with
  | here => exact ⟨[], _, rfl, rfl⟩
  | there _ ih => obtain ⟨a, b, rfl, rfl⟩ := ih; exact ⟨_ :: a, b, rfl, rfl⟩
theorem HP.mem_lt {H : Heap} {L : List HE} (hp : HP H L) {e : HE} (he : e ∈ L) {i : Nat} (hi : i ∈ e.ids) : i < H.length := by
  have h := hp.all e he
  cases e with
  | ob id o =>
    simp only [HE.ids, List.mem_singleton] at hi
    subst hi
    exact (List.getElem?_eq_some_iff.1 h).1
  | own g s fl xs =>
    rcases h with ⟨rfl, _⟩ | ⟨id, rfl, h⟩
    · simp [HE.ids, Hd.ids] at hi
    · simp only [HE.ids, Hd.ids, List.mem_singleton] at hi
      subst hi
      exact (List.getElem?_eq_some_iff.1 h).1
theorem HE.holds_set {H H' : Heap} {e : HE} (h : e.holds H) (hh : ∀ i ∈ e.ids, H'[i]? = H[i]?) : e.holds H' := by
  cases e with
  | ob id o => exact (hh id (by simp [HE.ids])).trans h
  | own g s fl xs =>
    rcases h with h | ⟨id, rfl, h⟩
    · exact .inl h
    · exact .inr ⟨id, rfl, (hh id (by simp [HE.ids, Hd.ids])).trans h⟩
/-- One thing is changed, the others stay. -/
theorem HP.change {H H' : Heap} {e e' : HE} {L L' : List HE} (hp : HP H L) (hat : At e e' L L') (hH : ∀ i, i ∉ e.ids → i < H.length → H'[i]? = H[i]?) (he : e'.holds H') (hids : ∀ i ∈ e'.ids, i ∈ e.ids ∨ H.length ≤ i) (hnd : e'.ids.Nodup) : HP H' L' := by
  obtain ⟨a, b, rfl, rfl⟩ := hat.split
  have nd := hp.nd
  simp only [List.flatMap_append, List.flatMap_cons, List.nodup_append, List.mem_append, List.mem_flatMap] at nd
  obtain ⟨na, ⟨ne, nb, neb⟩, nab⟩ := nd
  refine ⟨fun x hx => ?_, ?_⟩
  · simp only [List.mem_append, List.mem_cons] at hx
    rcases hx with hx | rfl | hx
    · exact HE.holds_set (hp.all x (by simp [hx])) fun i hi => hH i (fun h => nab i ⟨x, hx, hi⟩ i (.inl h) rfl) (hp.mem_lt (e := x) (by simp [hx]) hi)
    · exact he
    · exact HE.holds_set (hp.all x (by simp [hx])) fun i hi => hH i (fun h => neb i h i ⟨x, hx, hi⟩ rfl) (hp.mem_lt (e := x) (by simp [hx]) hi)
  · simp only [List.flatMap_append, List.flatMap_cons, List.nodup_append, List.mem_append, List.mem_flatMap]
    refine ⟨na, ⟨hnd, nb, ?_⟩, ?_⟩
    · rintro i hi j ⟨x, hx, hj⟩ rfl
      rcases hids i hi with h | h
      · exact neb i h i ⟨x, hx, hj⟩ rfl
      · have := hp.mem_lt (e := x) (by simp [hx]) hj
        omega
    · rintro i ⟨x, hx, hi⟩ j hj rfl
      rcases hj with hj | hj
      · rcases hids i hj with h | h
        · exact nab i ⟨x, hx, hi⟩ i (.inl h) rfl
        · have := hp.mem_lt (e := x) (by simp [hx]) hi
          omega
      · exact nab i ⟨x, hx, hi⟩ i (.inr hj) rfl
/-- One thing more. -/
theorem HP.more {H H' : Heap} {e : HE} {L : List HE} (hp : HP H L) (hH : ∀ i, i < H.length → H'[i]? = H[i]?) (he : e.holds H') (hids : ∀ i ∈ e.ids, H.length ≤ i) (hnd : e.ids.Nodup) : HP H' (e :: L) := by
  refine ⟨fun x hx => ?_, ?_⟩
  · rcases List.mem_cons.1 hx with rfl | hx
    · exact he
    · exact HE.holds_set (hp.all x hx) fun i hi => hH i (hp.mem_lt hx hi)
  · simp only [List.flatMap_cons, List.nodup_append, List.mem_flatMap]
    refine ⟨hnd, hp.nd, ?_⟩
    rintro i hi j ⟨x, hx, hj⟩ rfl
    have := hp.mem_lt hx hj
    have := hids i hi
    omega
theorem HP.sub {H : Heap} {L L' : List HE} (hp : HP H L) (h : L'.Sublist L) : HP H L' :=
  ⟨fun e he => hp.all e (h.subset he), hp.nd.sublist (by
    induction h with
    | slnil => exact .slnil
    | cons a _ ih => exact (ih ⟨fun e he => hp.all e (List.mem_cons_of_mem _ he), (List.nodup_append.1 hp.nd).2.1⟩).trans (List.sublist_append_right _ _)
    | cons_cons a _ ih => exact (List.Sublist.refl _).append (ih ⟨fun e he => hp.all e (List.mem_cons_of_mem _ he), (List.nodup_append.1 hp.nd).2.1⟩))⟩
theorem HP.perm {H : Heap} {L L' : List HE} (hp : HP H L) (h : L.Perm L') : HP H L' :=
  ⟨fun e he => hp.all e (h.mem_iff.2 he), ((h.flatMap_right HE.ids).nodup_iff).1 hp.nd⟩
/-- Some of them, in some order. -/
def Sb (L' L : List HE) : Prop := ∃ M : List HE, M.Sublist L ∧ M.Perm L'
theorem Sb.of {L' L : List HE} (h : L'.Sublist L) : Sb L' L := ⟨_, h, .refl _⟩
theorem Sb.pm {L' L : List HE} (h : L.Perm L') : Sb L' L := ⟨_, .refl _, h⟩
theorem HP.sb {H : Heap} {L L' : List HE} (hp : HP H L) (h : Sb L' L) : HP H L' := by
  obtain ⟨M, h1, h2⟩ := h
  exact (hp.sub h1).perm h2
section
variable (T : Nat → Option Fn) (fx : FX) (S : Bool)
/-- Code, and what holds behind it, by what is known of slots and memory; S: memory stays as it is. -/
def WH (r : List BC) (A : Sl) (L : List HE) (Q : X → Sl → List HE → Prop) : Prop := ∀ H, HP H L → WB T fx r (A, H) fun x st => (S = true → st.2 = H) ∧ ∃ L', HP st.2 L' ∧ Q x st.1 L'
def RS (bs : List BS) (lv : Mask) (ds : List (Nat × E)) (z : List E) (A : Sl) (L : List HE) (K : List V → Sl → List HE → Prop) : Prop := ∀ H, HP H L → regK T bs lv ds z (A, H) fun zs st => (S = true → st.2 = H) ∧ ∃ L', HP st.2 L' ∧ K zs st.1 L'
def bkH (id : Nat) (r : List BC) (Q : X → Sl → List HE → Prop) : X → Sl → List HE → Prop
  | .norm, A, L => WH T fx S r A L Q
  | .exit j, A, L => if j = id then WH T fx S r A L Q else Q (.exit j) A L
  | .ret, A, L => Q .ret A L
end
/-- Behind one turn of a loop. -/
def lpH (I : Nat → Sl → List HE → Prop) (m : Nat) (Q : X → Sl → List HE → Prop) : X → Sl → List HE → Prop
  | .norm, A, L => ∃ k L', k < m ∧ Sb L' L ∧ I k A L'
  | .exit j, A, L => Q (.exit j) A L
  | .ret, A, L => Q .ret A L
section
variable {T : Nat → Option Fn} {fx : FX} {S : Bool} {A : Sl} {L : List HE} {Q : X → Sl → List HE → Prop} {r : List BC}
theorem WB.mono {Q Q' : X → SS → Prop} (hq : ∀ x st, Q x st → Q' x st) : ∀ {r : List BC} {st : SS}, WB T fx r st Q → WB T fx r st Q'
  | [], st, h => hq _ _ h
  | b :: r, st, h => fun c hm => W.mono (h c hm) fun x st' h => by
    cases x with
    | norm => exact WB.mono hq h
    | exit j => exact hq _ _ h
    | ret => exact hq _ _ h
theorem WH.mono {Q' : X → Sl → List HE → Prop} (h : WH T fx S r A L Q) (hq : ∀ x A L, Q x A L → Q' x A L) : WH T fx S r A L Q' := fun H hp => WB.mono (r := r) (st := (A, H)) (fun x st ⟨hS, L', h1, h2⟩ => ⟨hS, L', h1, hq _ _ _ h2⟩) (h H hp)
theorem wh_sub {L' : List HE} (h : WH T fx S r A L' Q) (hs : L'.Sublist L) : WH T fx S r A L Q := fun H hp => h H (hp.sub hs)
theorem wh_perm {L' : List HE} (hs : L.Perm L') (h : WH T fx S r A L' Q) : WH T fx S r A L Q := fun H hp => h H (hp.perm hs)
theorem wh_ref {g : Hd} {s : Nat} {fl : Bool} {xs : List V} (hm : HE.own g s fl xs ∈ L) (h0 : 0 < xs.length) (h : ∀ id, g = .ref id s xs.length → WH T fx S r A L Q) : WH T fx S r A L Q := fun H hp => by
  obtain ⟨id, h1, _⟩ := own_at (hp.all _ hm) h0
  exact h id h1 H hp
theorem wh_end (h : Q .norm A L) : WH T fx S [] A L Q := fun H hp => ⟨fun _ => rfl, L, hp, h⟩
theorem wh_seq {a b : BC} (h : WH T fx S (a :: b :: r) A L Q) : WH T fx S (.seq a b :: r) A L Q := fun H hp => wb_seq (h H hp)
theorem wh_skip (h : WH T fx S r A L Q) : WH T fx S (.skip :: r) A L Q := fun H hp => wb_skip (h H hp)
theorem wh_ret (h : Q .ret A L) : WH T fx S (.ret :: r) A L Q := fun H hp => wb_ret ⟨fun _ => rfl, L, hp, h⟩
theorem wh_exit {id : Nat} (h : Q (.exit id) A L) : WH T fx S (.exit id :: r) A L Q := fun H hp => wb_exit ⟨fun _ => rfl, L, hp, h⟩
theorem WH.at {H0 H : Heap} (h : WH T fx S r A L Q) (hp : HP H L) (hS : S = true → H = H0) : WB T fx r (A, H) fun x st => (S = true → st.2 = H0) ∧ ∃ L', HP st.2 L' ∧ Q x st.1 L' :=
  WB.mono (r := r) (st := (A, H)) (fun x st ⟨h1, h2⟩ => ⟨fun e => (h1 e).trans (hS e), h2⟩) (h H hp)
theorem wh_block {id : Nat} {b : BC} (h : WH T fx S [b] A L (bkH T fx S id r Q)) : WH T fx S (.block id b :: r) A L Q := fun H hp => wb_block (WB.mono (r := [b]) (st := (A, H)) (fun x st ⟨hS, L', h1, h2⟩ => by
  cases x with
  | norm => exact WH.at h2 h1 hS
  | ret => exact ⟨hS, L', h1, h2⟩
  | exit j =>
    simp only [bkH] at h2
    simp only [bkQ]
    by_cases e : j = id
    · rw [if_pos e] at h2 ⊢; exact WH.at h2 h1 hS
    · rw [if_neg e] at h2 ⊢; exact ⟨hS, L', h1, h2⟩) (h H hp))
theorem bk_norm {id : Nat} (h : WH T fx S r A L Q) : bkH T fx S id r Q .norm A L := h
theorem bk_exit {id : Nat} (h : WH T fx S r A L Q) : bkH T fx S id r Q (.exit id) A L := by simp only [bkH, if_true]; exact h
theorem bk_other {id j : Nat} (e : Nat.beq j id = false) (h : Q (.exit j) A L) : bkH T fx S id r Q (.exit j) A L := by
  simp only [bkH]; rw [if_neg (Nat.ne_of_beq_eq_false e)]; exact h
theorem bk_ret {id : Nat} (h : Q .ret A L) : bkH T fx S id r Q .ret A L := h
theorem lp_exit {I : Nat → Sl → List HE → Prop} {m j : Nat} (h : Q (.exit j) A L) : lpH I m Q (.exit j) A L := h
theorem lp_ret {I : Nat → Sl → List HE → Prop} {m : Nat} (h : Q .ret A L) : lpH I m Q .ret A L := h
theorem wh_loop (I : Nat → Sl → List HE → Prop) (m : Nat) {b : BC} (h0 : I m A L) (h : ∀ m A L, I m A L → WH T fx S [b] A L (lpH I m Q)) : WH T fx S (.loop b :: r) A L Q := fun H0 hp => by
  refine wb_loop (fun m st => (S = true → st.2 = H0) ∧ ∃ L, HP st.2 L ∧ I m st.1 L) m ⟨fun _ => rfl, L, hp, h0⟩ ?_
  rintro m ⟨A, H⟩ ⟨hS, L, hp, hi⟩
  refine WB.mono (r := [b]) (st := (A, H)) (fun x st ⟨hS', L', h1, h2⟩ => ?_) (h m A L hi H hp)
  have hS2 : S = true → st.2 = H0 := fun e => (hS' e).trans (hS e)
  cases x with
  | norm => obtain ⟨k, L'', h3, h4, h5⟩ := h2; exact ⟨k, h3, hS2, L'', h1.sb h4, h5⟩
  | exit j => exact ⟨hS2, L', h1, h2⟩
  | ret => exact ⟨hS2, L', h1, h2⟩
/-- A loop that counts: n turns, and what holds ahead of the i-th. -/
theorem wh_for (n : Nat) (I : Nat → Sl → List HE → Prop) {b : BC} (h0 : I 0 A L) (h : ∀ i A L, i ≤ n → I i A L → WH T fx S [b] A L fun x A' L' => match x with | .norm => i < n ∧ ∃ L'', Sb L'' L' ∧ I (i + 1) A' L'' | .exit j => Q (.exit j) A' L' | .ret => Q .ret A' L') : WH T fx S (.loop b :: r) A L Q := by
  refine wh_loop (fun m A L => ∃ i, m = n - i ∧ i ≤ n ∧ I i A L) n ⟨0, by omega, by omega, h0⟩ ?_
  rintro m A L ⟨i, rfl, hi, hI⟩
  refine (h i A L hi hI).mono fun x A' L' h => ?_
  cases x with
  | norm => obtain ⟨h1, L'', h2, h3⟩ := h; exact ⟨n - (i + 1), L'', by omega, h2, i + 1, rfl, by omega, h3⟩
  | exit j => exact h
  | ret => exact h
theorem rs_nil {lv : Mask} {ds : List (Nat × E)} {z : List E} {K : List V → Sl → List HE → Prop} {zs ws : List V} {A' : Sl} (hz : EvL T A L z zs) (hd : EvL T A L (ds.map (·.2)) ws) (hA : keepM lv (putL (ds.map (·.1)) ws A) = A') (h : K zs A' L) : RS T S [] lv ds z A L K := fun H hp => ⟨zs, ws, hz H hp, hd H hp, fun _ => rfl, L, hp, by rw [hA]; exact h⟩
theorem rs_chk {π e : E} {bs : List BS} {lv : Mask} {ds : List (Nat × E)} {z : List E} {K : List V → Sl → List HE → Prop} {p : Bool} {v : V} (hπ : Ev T A L π (.bool p)) (he : p = true → Ev T A L e v) (h : RS T S bs lv ds z A L K) : RS T S (.chk π e :: bs) lv ds z A L K := fun H hp => ⟨⟨p, hπ H hp, fun hc => ⟨v, he hc H hp⟩⟩, h H hp⟩
section
variable {ds1 : List (Nat × E)} {kf : Mask} {d : Option Nat} {bs : List BS} {lv : Mask} {ds : List (Nat × E)} {z : List E} {K : List V → Sl → List HE → Prop}
/-- What changes memory. -/
theorem rs_eff {o : XOp} {es : List E} {ws vs : List V} {A' : Sl} (hd : EvL T A L (ds1.map (·.2)) ws) (hs : EvL T A L es vs) (hA : keepM kf (putL (ds1.map (·.1)) ws A) = A')
    (h : ∀ H, HP H L → ∃ v H' L', stepX T o vs H v H' ∧ HP H' L' ∧ RS T false bs lv ds z (insD d v A') L' K) : RS T false (.eff ds1 kf d o es :: bs) lv ds z A L K := fun H hp => by
  obtain ⟨v, H', L', h1, h2, h3⟩ := h H hp
  exact ⟨ws, vs, v, H', hd H hp, hs H hp, h1, by rw [hA]; exact wpS_mono T (fun st ⟨zs, ws, k1, k2, _, k3⟩ => ⟨zs, ws, k1, k2, fun e => (by cases e), k3⟩) (h3 H' h2)⟩
theorem get_app {H : Heap} {x : O} {i : Nat} (h : i < H.length) : (H ++ [x])[i]? = H[i]? := List.getElem?_append_left h
theorem get_new {H : Heap} {x : O} : (H ++ [x])[H.length]? = some x := by simp
theorem HP.push {H : Heap} {L : List HE} (hp : HP H L) (x : O) : HP (H ++ [x]) (.ob H.length x :: L) :=
  hp.more (fun i hi => get_app hi) get_new (by simp [HE.ids]) (by simp [HE.ids])
theorem rs_alloc {s : Nat} {fl : Bool} {y : V} {ws : List V} {A' : Sl} (hd : EvL T A L (ds1.map (·.2)) ws) (hA : keepM kf (putL (ds1.map (·.1)) ws A) = A') (hy : okEl s fl y = true)
    (h : ∀ id, RS T false bs lv ds z (insD d (.ptr id s 0 0) A') (.ob id (.row s fl [y]) :: L) K) : RS T false (.eff ds1 kf d (B.alo s fl y) [] :: bs) lv ds z A L K :=
  rs_eff hd ev_nil hA fun H hp => ⟨_, _, _, ⟨_, by simp only [stepL]; rw [if_pos hy], rfl⟩, hp.push _, h _⟩
theorem rs_box {s : Nat} {fl : Bool} {e : E} {y : V} {ws : List V} {A' : Sl} (hd : EvL T A L (ds1.map (·.2)) ws) (he : Ev T A L e y) (hA : keepM kf (putL (ds1.map (·.1)) ws A) = A') (hy : okEl s fl y = true)
    (h : ∀ id, RS T false bs lv ds z (insD d (.ptr id s 0 0) A') (.ob id (.row s fl [y]) :: L) K) : RS T false (.eff ds1 kf d (B.box s fl) [e] :: bs) lv ds z A L K :=
  rs_eff hd (ev_cons he ev_nil) hA fun H hp => ⟨_, _, _, ⟨_, by simp only [stepL, evl, List.getD_cons_zero]; rw [if_pos hy], rfl⟩, hp.push _, h _⟩
theorem rs_mkmap {kt : KT} {ws : List V} {A' : Sl} (hd : EvL T A L (ds1.map (·.2)) ws) (hA : keepM kf (putL (ds1.map (·.1)) ws A) = A')
    (h : ∀ id, RS T false bs lv ds z (insD d (.map id) A') (.ob id (.map kt []) :: L) K) : RS T false (.eff ds1 kf d (.l (.mkmap kt)) [] :: bs) lv ds z A L K :=
  rs_eff hd ev_nil hA fun H hp => ⟨_, _, _, ⟨_, rfl, rfl⟩, hp.push _, h _⟩
theorem rs_store {n id s i fo : Nat} {fl : Bool} {ys : List V} {x y : V} {a e : E} {ws : List V} {A' : Sl} {L' : List HE} (hd : EvL T A L (ds1.map (·.2)) ws) (ha : Ev T A L a (.ptr id s i fo)) (he : Ev T A L e y) (hA : keepM kf (putL (ds1.map (·.1)) ws A) = A')
    (hat : At (.ob id (.row s fl ys)) (.ob id (.row s fl (ys.set i (x.putAt y fo)))) L L') (hx : ys[i]? = some x) (hc : (y.cells.length == n && (Nat.ble 1 n && (Nat.ble (fo + n) s && (y.cells.all V.sc && (!fl || y.cells.all V.flat1))))) = true)
    (h : RS T false bs lv ds z A' L' K) : RS T false (.eff ds1 kf none (B.sto n) [a, e] :: bs) lv ds z A L K :=
  rs_eff hd (ev_cons ha (ev_cons he ev_nil)) hA fun H hp => by
    have hr := hp.all _ hat.mem
    simp only [HE.holds] at hr
    simp only [Bool.and_eq_true, beq_iff_eq, Nat.ble_eq] at hc
    obtain ⟨c1, c2, c3, c4, c5⟩ := hc
    refine ⟨.tup [], H.set id (.row s fl (ys.set i (x.putAt y fo))), L', ?_, ?_, h⟩
    · simp only [stepX, stepE, evl, List.getD_cons_zero, List.getD_cons_succ, storeAt, rowAt_of hr, Option.bind_eq_bind, Option.bind_some, hx]
      rw [if_pos ⟨c1, c2, c3, c4, c5⟩]; rfl
    · have hlt := (List.getElem?_eq_some_iff.1 hr).1
      refine hp.change hat (fun j hj _ => ?_) ?_ (fun j hj => .inl hj) (by simp [HE.ids])
      · simp only [HE.ids, List.mem_singleton] at hj
        exact List.getElem?_set_ne (fun e => hj e.symm)
      · simp only [HE.holds]
        rw [List.getElem?_set_self hlt]
def okLen (n bytes : Nat) : Prop := n * bytes ≤ 1099511627776 ∧ n ≤ 1099511627776
theorem Hd.ids_nd (g : Hd) : g.ids.Nodup := by cases g <;> simp [Hd.ids]
theorem own_nd {g : Hd} {s : Nat} {fl : Bool} {xs : List V} : (HE.own g s fl xs).ids.Nodup := Hd.ids_nd g
/-- Behind a slice of one's own. -/
theorem app_run {H : Heap} {L : List HE} {L' : Hd → List HE} {s bytes : Nat} {fl : Bool} {xs ys : List V} {g : Hd} (hp : HP H L) (hat : ∀ g', At (.own g s fl xs) (.own g' s fl (xs ++ ys)) L (L' g')) (hok : ys.all (okEl s fl) = true) (hl : okLen (xs.length + ys.length) bytes) :
    ∃ g' H', appendTo H s fl bytes g.v ys = some (Hd.v g', H') ∧ HP H' (L' g') := by
  have ho := hp.all _ (hat g).mem
  unfold appendTo
  by_cases he : ys = []
  · subst he
    refine ⟨g, H, ?_, ?_⟩
    · rcases ho with ⟨rfl, rfl⟩ | ⟨id, rfl, _⟩ <;> rfl
    · refine hp.change (hat g) (fun _ _ _ => rfl) ?_ (fun i hi => .inl hi) own_nd
      rw [List.append_nil]; exact ho
  · have he' : ys.isEmpty = false := by cases ys <;> simp at he ⊢
    rw [he']
    simp only [Bool.false_eq_true, if_false, hok, if_true]
    rcases ho with ⟨rfl, rfl⟩ | ⟨id, rfl, hr⟩
    · simp only [List.length_nil, Nat.zero_add] at hl
      refine ⟨.ref H.length s ys.length, H ++ [.row s fl ys], ?_, ?_⟩
      · simp only [Hd.v]; rw [if_pos ⟨hl.1, hl.2⟩]
      · refine hp.change (hat _) (fun i _ hi => get_app hi) (.inr ⟨H.length, by simp, by simp⟩) ?_ own_nd
        simp [HE.ids, Hd.ids]
    · have hlt := (List.getElem?_eq_some_iff.1 hr).1
      refine ⟨.ref H.length s (xs.length + ys.length), H.set id .dead ++ [.row s fl (xs ++ ys)], ?_, ?_⟩
      · simp only [Hd.v, rowAt_of hr, Option.bind_eq_bind, Option.bind_some, List.drop_zero, List.take_length, Nat.zero_add]
        rw [if_pos ⟨trivial, trivial, Nat.le_refl _, hl.1, hl.2⟩]
      · refine hp.change (hat _) (fun i hi hil => ?_) (.inr ⟨H.length, by simp, by simp⟩) ?_ own_nd
        · simp only [HE.ids, Hd.ids, List.mem_singleton] at hi
          rw [get_app (by simpa using hil), List.getElem?_set_ne (fun e => hi e.symm)]
        · simp [HE.ids, Hd.ids]
theorem elems_own {H : Heap} {g : Hd} {s : Nat} {fl : Bool} {ys : List V} (h : (HE.own g s fl ys).holds H) : elems H g.v = some ys := by
  rcases h with ⟨rfl, rfl⟩ | ⟨id, rfl, h⟩
  · rfl
  · simp [Hd.v, elems, rowAt_of h]
/-- The elements that are put behind a slice. -/
def El (L : List HE) (v : V) (ys : List V) : Prop := ∀ H, HP H L → elems H v = some ys
theorem el_lst {ys : List V} : El L (.lst ys) ys := fun _ _ => rfl
theorem el_nil : El L .nil [] := fun _ _ => rfl
theorem el_own {g : Hd} {s : Nat} {fl : Bool} {ys : List V} (h : HE.own g s fl ys ∈ L) : El L g.v ys := fun H hp => elems_own (hp.all _ h)
theorem rs_app {g : Hd} {s b : Nat} {fl : Bool} {xs ys : List V} {a e : E} {y : V} {ws : List V} {A' : Sl} {L' : Hd → List HE} (hd : EvL T A L (ds1.map (·.2)) ws) (ha : Ev T A L a g.v) (he : Ev T A L e y) (hy : El L y ys) (hA : keepM kf (putL (ds1.map (·.1)) ws A) = A')
    (hat : ∀ g', At (.own g s fl xs) (.own g' s fl (xs ++ ys)) L (L' g')) (hok : ys.all (okEl s fl) = true) (hl : okLen (xs.length + ys.length) b)
    (h : ∀ g' : Hd, RS T false bs lv ds z (insD d g'.v A') (L' g') K) : RS T false (.eff ds1 kf d (B.apd s fl b) [a, e] :: bs) lv ds z A L K :=
  rs_eff hd (ev_cons ha (ev_cons he ev_nil)) hA fun H hp => by
    obtain ⟨g', H', h1, h2⟩ := app_run hp hat hok hl
    refine ⟨_, H', _, ?_, h2, h g'⟩
    simp only [stepX, stepE, evl, List.getD_cons_zero, List.getD_cons_succ, hy H hp, Option.bind_eq_bind, Option.bind_some, h1]
/-- A slice of one's own, made of what is named. -/
theorem rs_mks {s n : Nat} {fl : Bool} {zz : List V} {ps : List (Nat × Opd)} {es : List E} {vs ys : List V} {ws : List V} {A' : Sl} (hd : EvL T A L (ds1.map (·.2)) ws) (he : EvL T A L es vs) (hA : keepM kf (putL (ds1.map (·.1)) ws A) = A')
    (hy : stepL (evl vs) 0 (.mks s fl zz n ps) = some (.row s fl ys, .ref 0 s 0 n)) (hn : ys.length = n)
    (h : ∀ g : Hd, RS T false bs lv ds z (insD d g.v A') (.own g s fl ys :: L) K) : RS T false (.eff ds1 kf d (.l (.mks s fl zz n ps)) es :: bs) lv ds z A L K :=
  rs_eff hd he hA fun H hp => by
    refine ⟨.ref H.length s 0 n, H ++ [.row s fl ys], _, ⟨.row s fl ys, ?_, rfl⟩, ?_, h (.ref H.length s n)⟩
    · simp only [stepL, Option.bind_eq_bind, Option.bind_eq_some_iff] at hy ⊢
      obtain ⟨xs, h1, h2⟩ := hy
      refine ⟨xs, h1, ?_⟩
      split at h2
      · rename_i hc
        rw [if_pos hc]
        simp only [Option.some.injEq, Prod.mk.injEq, O.row.injEq, true_and] at h2
        rw [h2.1]
      · cases h2
    · refine hp.more (fun i hi => get_app hi) (.inr ⟨H.length, by rw [hn], by simp⟩) ?_ own_nd
      simp [HE.ids, Hd.ids]
theorem rs_one {s : Nat} {fl : Bool} {zz : List V} {e : E} {y : V} {ws : List V} {A' : Sl} (hd : EvL T A L (ds1.map (·.2)) ws) (he : Ev T A L e y) (hA : keepM kf (putL (ds1.map (·.1)) ws A) = A')
    (hy : okEl s fl y = true) (h : ∀ g : Hd, RS T false bs lv ds z (insD d g.v A') (.own g s fl [y] :: L) K) : RS T false (.eff ds1 kf d (B.one s fl zz) [e] :: bs) lv ds z A L K :=
  rs_mks hd (ev_cons he ev_nil) hA (by simp [stepL, evl, hy]) rfl h
theorem rs_make {s by' : Nat} {fl : Bool} {zz : V} {a b : E} {n : Nat} {ws : List V} {A' : Sl} (hd : EvL T A L (ds1.map (·.2)) ws) (ha : Ev T A L a (.int .i64 (n : Nat))) (hb : Ev T A L b (.int .i64 (n : Nat))) (hA : keepM kf (putL (ds1.map (·.1)) ws A) = A')
    (hy : okEl s fl zz = true) (hl : okLen n by') (h : ∀ g : Hd, RS T false bs lv ds z (insD d g.v A') (.own g s fl (List.replicate n zz) :: L) K) : RS T false (.eff ds1 kf d (.l (.make s fl zz by' (.t 0) (.t 1))) [a, b] :: bs) lv ds z A L K :=
  rs_eff hd (ev_cons ha (ev_cons hb ev_nil)) hA fun H hp => by
    obtain ⟨h1, h2⟩ := hl
    refine ⟨.ref H.length s 0 n, H ++ [.row s fl (List.replicate n zz)], _, ⟨_, ?_, rfl⟩, ?_, h (.ref H.length s n)⟩
    · simp only [stepL, evl, List.getD_cons_zero, List.getD_cons_succ]
      rw [if_pos ⟨by omega, by omega, by omega, hy, by omega⟩]; rfl
    · refine hp.more (fun i hi => get_app hi) (.inr ⟨H.length, by simp, by simp⟩) ?_ own_nd
      simp [HE.ids, Hd.ids]
theorem rs_mup {kt : KT} {id : Nat} {es : List (V × V)} {a b e : E} {k x : V} {ws : List V} {A' : Sl} {L' : List HE} (hd : EvL T A L (ds1.map (·.2)) ws) (ha : Ev T A L a (.map id)) (hb : Ev T A L b k) (he : Ev T A L e x) (hA : keepM kf (putL (ds1.map (·.1)) ws A) = A')
    (hat : At (.ob id (.map kt es)) (.ob id (.map kt (mput es k x))) L L') (hk : (kt.conf k && x.flat1) = true) (h : RS T false bs lv ds z A' L' K) : RS T false (.eff ds1 kf none (.e (.mup kt (.t 0) (.t 1) (.t 2))) [a, b, e] :: bs) lv ds z A L K :=
  rs_eff hd (ev_cons ha (ev_cons hb (ev_cons he ev_nil))) hA fun H hp => by
    have hr := hp.all _ hat.mem
    simp only [HE.holds] at hr
    have hlt := (List.getElem?_eq_some_iff.1 hr).1
    refine ⟨.tup [], H.set id (.map kt (mput es k x)), L', ?_, ?_, h⟩
    · simp only [stepX, stepE, evl, List.getD_cons_zero, List.getD_cons_succ, hr]
      rw [if_pos ⟨trivial, hk⟩]
    · refine hp.change hat (fun j hj _ => ?_) ?_ (fun j hj => .inl hj) (by simp [HE.ids])
      · simp only [HE.ids, List.mem_singleton] at hj
        exact List.getElem?_set_ne (fun e => hj e.symm)
      · simp only [HE.holds]
        rw [List.getElem?_set_self hlt]
/-- A call that changes memory. -/
def CE (T : Nat → Option Fn) (f : Nat) (vs : List V) (L : List HE) (R : V → List HE → Prop) : Prop := ∀ H, HP H L → ∃ v H' L', Ans T f vs H v H' ∧ HP H' L' ∧ R v L'
theorem rs_call {f : Nat} {es : List E} {vs : List V} {R : V → List HE → Prop} {ws : List V} {A' : Sl} (hd : EvL T A L (ds1.map (·.2)) ws) (he : EvL T A L es vs) (hA : keepM kf (putL (ds1.map (·.1)) ws A) = A') (hc : CE T f vs L R)
    (h : ∀ v L', R v L' → RS T false bs lv ds z (insD d v A') L' K) : RS T false (.eff ds1 kf d (.call f) es :: bs) lv ds z A L K :=
  rs_eff hd he hA fun H hp => by
    obtain ⟨v, H', L', h1, h2, h3⟩ := hc H hp
    exact ⟨v, H', L', h1, h2, h v L' h3⟩
end
theorem wh_reg {bs : List BS} {lv : Mask} {ds : List (Nat × E)} (h : RS T S bs lv ds [] A L fun _ A' L' => WH T fx S r A' L' Q) : WH T fx S (.reg bs lv ds :: r) A L Q := fun H hp =>
  wb_reg (wpS_mono T (fun st ⟨zs, ws, h1, h2, hS, L', h3, h4⟩ => ⟨zs, ws, h1, h2, WH.at h4 h3 hS⟩) (h H hp))
theorem wh_ife {bs : List BS} {lv : Mask} {ds : List (Nat × E)} {z : E} {a b : BC} (h : RS T S bs lv ds [z] A L fun zs A' L' => ∃ t, zs = [.bool t] ∧ (t = true → WH T fx S (a :: r) A' L' Q) ∧ (t = false → WH T fx S (b :: r) A' L' Q)) : WH T fx S (.ife bs lv ds z a b :: r) A L Q := fun H hp =>
  wb_ife (wpS_mono T (fun st ⟨zs, ws, h1, h2, hS, L', h3, t, h4, h5, h6⟩ => ⟨zs, ws, h1, h2, t, h4, fun ht => WH.at (h5 ht) h3 hS, fun ht => WH.at (h6 ht) h3 hS⟩) (h H hp))
theorem rs_if {lv : Mask} {ds : List (Nat × E)} {z : E} {t : Bool} {ws : List V} {A' : Sl} {P : Prop} {X Y : Sl → List HE → Prop} (hz : Ev T A L z (.bool t)) (hd : EvL T A L (ds.map (·.2)) ws) (hA : keepM lv (putL (ds.map (·.1)) ws A) = A') (hP : (t = true) = P)
    (h1 : P → X A' L) (h2 : ¬ P → Y A' L) : RS T S [] lv ds [z] A L fun zs A' L' => ∃ t, zs = [.bool t] ∧ (t = true → X A' L') ∧ (t = false → Y A' L') :=
  rs_nil (ev_cons hz ev_nil) hd hA ⟨t, rfl, fun h => h1 (hP ▸ h), fun h => h2 (by rw [← hP, h]; simp)⟩
/-! What a function gives. -/
def RsR (A : Sl) (L : List HE) (rs : List Res) (vs : List V) : Prop := ∀ H, HP H L → rs.mapM (resS1 (A, H)) = some vs
theorem rr_nil : RsR A L [] [] := fun _ _ => rfl
theorem rr_t {i : Nat} {v : V} {rs : List Res} {vs : List V} (h : get A i = v) (hk : v.known = true) (hs : RsR A L rs vs) : RsR A L (.t i :: rs) (v :: vs) := fun H hp => by
  simp only [List.mapM_cons, resS1, h, hk, if_true, hs H hp, Option.bind_eq_bind, Option.bind_some, Option.pure_def]
theorem rr_cell {i : Nat} {sh : Sh} {v : V} {rs : List Res} {vs : List V} {id s j fo : Nat} {fl : Bool} {ys : List V} {x : V} (h : get A i = .ptr id s j fo) (hm : HE.ob id (.row s fl ys) ∈ L) (hx : ys[j]? = some x) (hv : part sh x.cells fo = some v) (hs : RsR A L rs vs) : RsR A L (.cell i sh :: rs) (v :: vs) := fun H hp => by
  have := hp.all _ hm
  simp only [HE.holds] at this
  simp only [List.mapM_cons, resS1, stepR, evS, h, rowAt_of this, Option.bind_eq_bind, Option.bind_some, hx, hv, hs H hp, Option.pure_def]
def Fin (rm : RM) (u : V) (L : List HE) (v : V) : Prop := ∀ h, HP h L → ∀ H, fin rm u h H = some (v, H)
theorem fin_froz {u v : V} (h : Dp L 8 u v) : Fin .froz u L v := fun hh hp H => by
  show (deep hh 8 u).map (·, H) = _
  rw [h hh hp]; rfl
theorem fin_scal {u : V} (h : u.cellsT.all V.flat1 = true) : Fin .scal u L u := fun hh hp H => by
  simp only [fin, h, if_true]
def Fresh (L : List HE) (v : V) : Prop := ∀ H, HP H L → freshF H v = true
theorem fr_own {g : Hd} {s : Nat} {xs : List V} (h : HE.own g s true xs ∈ L) : Fresh L g.v := fun H hp => by
  rcases hp.all _ h with ⟨rfl, _⟩ | ⟨id, rfl, h2⟩
  · rfl
  · simp [Hd.v, freshF, rowAt_of h2]
theorem fr_flat {v : V} (h : v.flat1 = true) : Fresh L v := fun H _ => by cases v <;> first | rfl | cases h
theorem fin_frozF {u v : V} (h : Dp L 8 u v) (hf : ∀ x ∈ u.cellsT, Fresh L x) : Fin .frozF u L v := fun hh hp H => by
  simp only [fin]
  rw [if_pos (List.all_eq_true.2 fun x hx => hf x hx hh hp)]
  show (deep hh 8 u).map (·, H) = _
  rw [h hh hp]; rfl
end
/-- A pure function, by its walk. -/
theorem pc_of {P : Program} {Le : List Nat} {t : List (Nat × Row)} (hT : AllR P Le t) {f : Nat} {cv : Bool} {np : Nat} {rm : RM} {res : List Res} {body : BC} (hl : lookR t f = some (.fn cv ⟨np, true, rm, res, body⟩)) {ds : List V} {fr : Bool} {v : V} (hn : ds.length = np) (hfr : ((decide (rm = .froz) || decide (rm = .own)) && !fr) = false)
    (hw : WH (tblOf P t) (fxE Le cv) false [body] (argS 0 ds) [] fun x A L => (x = .norm ∨ x = .ret) ∧ ∃ us, RsR A L res us ∧ Fin rm (oneOr us) L v) : PC (tblOf P t) f ds fr v := fun xs H hd hx => by
  have hln : xs.length = ds.length := (mapM_len hd).symm
  refine rowP hT hl (by rw [hln, hn]) ?_ hd (WB.mono (r := [body]) (st := (argS 0 ds, [])) (fun x st ⟨_, L', h1, h2, us, h3, h4⟩ => ⟨h2, oneOr us, ?_, h4 _ h1 H⟩) (hw [] (HP.nil [])))
  · rintro ⟨h1, h2⟩
    refine h2 (hx ?_)
    rcases h1 with rfl | rfl <;> simpa using hfr
  · simp only [resS, h3 st.2 h1, Option.map_some]
/-- A function that leaves memory as it is, run in its caller's. -/
class RC (T : Nat → Option Fn) (L : List HE) (f : Nat) (xs : List V) (v : outParam V) : Prop where
  h : ∀ H, HP H L → Ans T f xs H v H
theorem rc_of {P : Program} {Le : List Nat} {t : List (Nat × Row)} (hT : AllR P Le t) {f : Nat} {cv : Bool} {np : Nat} {rm : RM} {res : List Res} {body : BC} (hl : lookR t f = some (.fn cv ⟨np, false, rm, res, body⟩)) {xs : List V} {L : List HE} {v : V} (hn : xs.length = np)
    (hw : WH (tblOf P t) (fxE Le cv) true [body] (argS 0 xs) L fun x A L => (x = .norm ∨ x = .ret) ∧ ∃ us, RsR A L res us ∧ oneOr us = v) : RC (tblOf P t) L f xs v := ⟨fun H hp =>
  rowC hT hl hn (WB.mono (r := [body]) (st := (argS 0 xs, H)) (fun x st ⟨hS, L', h1, h2, us, h3, h4⟩ => ⟨h2, by simp only [resS, h3 st.2 h1, Option.map_some, h4], hS rfl⟩) (hw H hp))⟩
/-- A call in an expression. -/
inductive CX (T : Nat → Option Fn) (L : List HE) (f : Nat) (xs : List V) (v : V) : Prop where
  | raw (h : RC T L f xs v) : CX T L f xs v
  | pure {ds : List V} {fr : Bool} {P : Prop} (hd : Dps L 8 xs ds) (hc : PCon T f ds fr P v) (hf : fr = true → xs.all V.data = true) (hP : P) : CX T L f xs v
theorem CX.get {T : Nat → Option Fn} {L : List HE} {f : Nat} {xs : List V} {v : V} (h : CX T L f xs v) {H : Heap} (hp : HP H L) : callV T f xs H = some v := by
  cases h with
  | raw h => exact callV_of (h.h H hp)
  | pure hd hc hf hP => exact callV_of (hc.con hP xs H (hd H hp) hf)
theorem ev_callx {T : Nat → Option Fn} {A : Sl} {L : List HE} {f : Nat} {es : List E} {xs : List V} {v : V} (hs : EvL T A L es xs) (hc : CX T L f xs v) : Ev T A L (.call f es) v := fun H hp => by
  simp only [evE, hs H hp]
  exact hc.get hp
theorem ev_callw {T : Nat → Option Fn} {A : Sl} {L : List HE} {f : Nat} {p c : List V} {es : List E} {xs : List V} {v : V} (hs : EvL T A L es (.fn f p c :: xs)) (hc : CX T L f (p ++ xs ++ c) v) : Ev T A L (.callv es) v := fun H hp => by
  simp only [evE, hs H hp]
  exact hc.get hp
end Go.AM

/- Walking in short words. -/
set_option linter.unusedVariables false
set_option linter.unusedSimpArgs false
namespace Go.AM
/-! Slots, found and laid by rules. -/
inductive Gt : Sl → Nat → V → Prop where
  | here {i : Nat} {v : V} {r : Sl} : Gt ((i, v) :: r) i v
  | there {i j : Nat} {v w : V} {r : Sl} (hn : Nat.beq j i = false) (h : Gt r i v) : Gt ((j, w) :: r) i v
theorem Gt.get {A : Sl} {i : Nat} {v : V} (h : Gt A i v) : Go.AM.get A i = v := by
  induction h with
  | here => simp only [Go.AM.get, if_true]
  | there hn _ ih => simp only [Go.AM.get, if_neg (Nat.ne_of_beq_eq_false hn)]; exact ih
inductive Ins (i : Nat) (v : V) : Sl → Sl → Prop where
  | nil : Ins i v [] [(i, v)]
  | same {w : V} {r : Sl} : Ins i v ((i, w) :: r) ((i, v) :: r)
  | lo {j : Nat} {w : V} {r : Sl} (hn : Nat.beq i j = false) (hl : Nat.ble i j = true) : Ins i v ((j, w) :: r) ((i, v) :: (j, w) :: r)
  | up {j : Nat} {w : V} {r r' : Sl} (hn : Nat.beq i j = false) (hl : Nat.ble i j = false) (h : Ins i v r r') : Ins i v ((j, w) :: r) ((j, w) :: r')
theorem Ins.eq {i : Nat} {v : V} {A A' : Sl} (h : Ins i v A A') : ins i v A = A' := by
  induction h with
  | nil => rfl
  | same => simp only [ins, Nat.beq_refl, cond_true]
  | lo hn hl => simp only [ins, hn, hl, cond_true, cond_false]
  | up hn hl _ ih => simp only [ins, hn, hl, cond_false, ih]
inductive Keep (m : Mask) : Sl → Sl → Prop where
  | nil : Keep m [] []
  | yes {i : Nat} {v : V} {r r' : Sl} (hm : m.testBit i = true) (h : Keep m r r') : Keep m ((i, v) :: r) ((i, v) :: r')
  | no {i : Nat} {v : V} {r r' : Sl} (hm : m.testBit i = false) (h : Keep m r r') : Keep m ((i, v) :: r) r'
theorem Keep.eq {m : Mask} {A A' : Sl} (h : Keep m A A') : keepM m A = A' := by
  induction h with
  | nil => rfl
  | yes hm _ ih => simp only [keepM, hm, cond_true, ih]
  | no hm _ ih => simp only [keepM, hm, cond_false, ih]
/-- Laid, and kept. -/
inductive Lay : List (Nat × E) → List V → Sl → Sl → Prop where
  | nil {A : Sl} : Lay [] [] A A
  | cons {i : Nat} {e : E} {v : V} {ds : List (Nat × E)} {vs : List V} {A A' A'' : Sl} (h : Lay ds vs A A') (hi : Ins i v A' A'') : Lay ((i, e) :: ds) (v :: vs) A A''
theorem Lay.eq {ds : List (Nat × E)} {ws : List V} {A A' : Sl} (h : Lay ds ws A A') : putL (ds.map (·.1)) ws A = A' := by
  induction h with
  | nil => rfl
  | cons _ hi ih => simp only [List.map_cons, putL, ih, hi.eq]
theorem lay_keep {ds : List (Nat × E)} {ws : List V} {A A1 A' : Sl} {m : Mask} (h : Lay ds ws A A1) (hk : Keep m A1 A') : keepM m (putL (ds.map (·.1)) ws A) = A' := by rw [h.eq, hk.eq]
inductive InD : Option Nat → V → Sl → Sl → Prop where
  | no {v : V} {A : Sl} : InD none v A A
  | so {i : Nat} {v : V} {A A' : Sl} (h : Ins i v A A') : InD (some i) v A A'
theorem InD.eq {d : Option Nat} {v : V} {A A' : Sl} (h : InD d v A A') : insD d v A = A' := by
  cases h with
  | no => rfl
  | so h => exact h.eq
/-- What a truth value says. -/
inductive Rf : Bool → Prop → Prop where
  | dec {P : Prop} [i : Decidable P] : Rf (@decide P i) P
  | not {b : Bool} {P : Prop} (h : Rf b P) : Rf (!b) (¬ P)
  | and {a b : Bool} {P R : Prop} (h : Rf a P) (k : Rf b R) : Rf (a && b) (P ∧ R)
  | or {a b : Bool} {P R : Prop} (h : Rf a P) (k : Rf b R) : Rf (a || b) (P ∨ R)
  | tt : Rf true True
  | ff : Rf false False
  | any {b : Bool} : Rf b (b = true)
theorem Rf.eq {b : Bool} {P : Prop} (h : Rf b P) : (b = true) = P := by
  induction h with
  | dec => exact decide_eq_true_eq
  | not _ ih => rw [← ih]; simp
  | and _ _ ih ik => rw [← ih, ← ik]; simp
  | or _ _ ih ik => rw [← ih, ← ik]; simp
  | tt => simp
  | ff => simp
  | any => rfl
/-- What stands behind a loop that counts. -/
def frH (n : Nat) (I : Nat → Sl → List HE → Prop) (i : Nat) (Q : X → Sl → List HE → Prop) : X → Sl → List HE → Prop
  | .norm, A, L => i < n ∧ ∃ L', Sb L' L ∧ I (i + 1) A L'
  | .exit j, A, L => Q (.exit j) A L
  | .ret, A, L => Q .ret A L
section
variable {T : Nat → Option Fn} {fx : FX} {S : Bool} {A : Sl} {L : List HE} {Q : X → Sl → List HE → Prop} {r : List BC}
theorem wh_count (n : Nat) (I : Nat → Sl → List HE → Prop) {b : BC} (h0 : I 0 A L) (h : ∀ i A L, i ≤ n → I i A L → WH T fx S [b] A L (frH n I i Q)) : WH T fx S (.loop b :: r) A L Q :=
  wh_for n I h0 fun i A L hi hI => (h i A L hi hI).mono fun x A' L' h => by cases x <;> exact h
theorem fr_exit {n : Nat} {I : Nat → Sl → List HE → Prop} {i j : Nat} (h : Q (.exit j) A L) : frH n I i Q (.exit j) A L := h
theorem fr_ret {n : Nat} {I : Nat → Sl → List HE → Prop} {i : Nat} (h : Q .ret A L) : frH n I i Q .ret A L := h
theorem fr_next {n : Nat} {I : Nat → Sl → List HE → Prop} {i : Nat} {L' : List HE} (hi : i < n) (hL : L'.Sublist L) (h : I (i + 1) A L') : frH n I i Q .norm A L := ⟨hi, L', .of hL, h⟩
theorem fr_nextp {n : Nat} {I : Nat → Sl → List HE → Prop} {i : Nat} {L' : List HE} (hi : i < n) (hL : Sb L' L) (h : I (i + 1) A L') : frH n I i Q .norm A L := ⟨hi, L', hL, h⟩
theorem ev_g {i : Nat} {v : V} (h : Gt A i v) (hk : v.known = true) : Ev T A L (.s i) v := ev_s h.get hk
theorem ev_gh {i : Nat} {g : Hd} (h : Gt A i g.v) : Ev T A L (.s i) g.v := ev_s h.get g.known
theorem rr_g {i : Nat} {v : V} {rs : List Res} {vs : List V} (h : Gt A i v) (hk : v.known = true) (hs : RsR A L rs vs) : RsR A L (.t i :: rs) (v :: vs) := rr_t h.get hk hs
theorem rr_gc {i : Nat} {sh : Sh} {v : V} {rs : List Res} {vs : List V} {id s j fo : Nat} {fl : Bool} {ys : List V} {x : V} (h : Gt A i (.ptr id s j fo)) (hm : HE.ob id (.row s fl ys) ∈ L) (hx : ys[j]? = some x) (hv : part sh x.cells fo = some v) (hs : RsR A L rs vs) : RsR A L (.cell i sh :: rs) (v :: vs) := rr_cell h.get hm hx hv hs
section
variable {a b : E} {k : IntKind} {m n : Int} {w : V}
/-! One step, by the values. -/
theorem sp_bin {o : BinOp} (hs : isShift o = false) {v : V} (h : binI o k m n = some v) : stepP (evl [.int k m, .int k n]) (.bin o (.t 0) (.t 1)) = some v := by
  simp only [stepP, evl, List.getD_cons_zero, List.getD_cons_succ, stepBin, hs, Bool.false_eq_true, if_false, if_true, h]
theorem sp_not {p : Bool} : stepP (evl [.bool p]) (.un .not (.t 0)) = some (.bool (!p)) := rfl
theorem sp_lt : stepP (evl [.int k m, .int k n]) (.bin .lss (.t 0) (.t 1)) = some (.bool (decide (m < n))) := sp_bin rfl rfl
theorem sp_le : stepP (evl [.int k m, .int k n]) (.bin .leq (.t 0) (.t 1)) = some (.bool (decide (m ≤ n))) := sp_bin rfl rfl
theorem sp_gt : stepP (evl [.int k m, .int k n]) (.bin .gtr (.t 0) (.t 1)) = some (.bool (decide (n < m))) := sp_bin rfl rfl
theorem sp_ge : stepP (evl [.int k m, .int k n]) (.bin .geq (.t 0) (.t 1)) = some (.bool (decide (n ≤ m))) := sp_bin rfl rfl
theorem sp_eq : stepP (evl [.int k m, .int k n]) (.bin .eql (.t 0) (.t 1)) = some (.bool (decide (m = n))) := sp_bin rfl rfl
theorem sp_ne : stepP (evl [.int k m, .int k n]) (.bin .neq (.t 0) (.t 1)) = some (.bool (!decide (m = n))) := sp_bin rfl rfl
theorem sp_eqs {s t : List UInt8} : stepP (evl [.str s, .str t]) (.bin .eql (.t 0) (.t 1)) = some (.bool (decide (s = t))) := rfl
theorem sp_nes {s t : List UInt8} : stepP (evl [.str s, .str t]) (.bin .neq (.t 0) (.t 1)) = some (.bool (!decide (s = t))) := rfl
theorem sp_inc {i : Nat} (h : i < 9223372036854775807) : stepP (evl [.int .i64 (i : Nat), .int .i64 1]) (.bin .add (.t 0) (.t 1)) = some (.int .i64 ((i + 1 : Nat) : Int)) :=
  sp_bin rfl (by simp only [binI]; rw [w64 (by omega)]; rfl)
theorem sp_addn {i j : Nat} (h : i + j < 9223372036854775808) : stepP (evl [.int .i64 (i : Nat), .int .i64 (j : Nat)]) (.bin .add (.t 0) (.t 1)) = some (.int .i64 ((i + j : Nat) : Int)) :=
  sp_bin rfl (by simp only [binI]; rw [w64 (by omega)]; rfl)
theorem sp_add (h : -9223372036854775808 ≤ m + n ∧ m + n ≤ 9223372036854775807) : stepP (evl [.int .i64 m, .int .i64 n]) (.bin .add (.t 0) (.t 1)) = some (.int .i64 (m + n)) :=
  sp_bin rfl (by simp only [binI]; rw [w64 h])
theorem sp_sub (h : -9223372036854775808 ≤ m - n ∧ m - n ≤ 9223372036854775807) : stepP (evl [.int .i64 m, .int .i64 n]) (.bin .sub (.t 0) (.t 1)) = some (.int .i64 (m - n)) :=
  sp_bin rfl (by simp only [binI]; rw [w64 h])
theorem sp_mul (h : -9223372036854775808 ≤ m * n ∧ m * n ≤ 9223372036854775807) : stepP (evl [.int .i64 m, .int .i64 n]) (.bin .mul (.t 0) (.t 1)) = some (.int .i64 (m * n)) :=
  sp_bin rfl (by simp only [binI]; rw [w64 h])
theorem sp_adds {s t : List UInt8} (h : s.length + t.length ≤ 4611686018427387904) : stepP (evl [.str s, .str t]) (.bin .add (.t 0) (.t 1)) = some (.str (s ++ t)) := by
  simp only [stepP, evl, List.getD_cons_zero, List.getD_cons_succ, stepBin, binS]; rw [if_pos (show s.length + t.length ≤ maxStr from h)]
theorem sp_sln {s : List UInt8} : stepP (evl [.str s]) (.len true (.t 0)) = some (.int .i64 (s.length : Nat)) := rfl
theorem sp_lenm {α : Type} {f : α → V} {xs : List α} : stepP (evl [.lst (xs.map f)]) (.len false (.t 0)) = some (.int .i64 (xs.length : Nat)) := by
  show some (V.int .i64 ((xs.map f).length : Nat)) = _
  rw [List.length_map]
theorem sp_len {xs : List V} : stepP (evl [.lst xs]) (.len false (.t 0)) = some (.int .i64 (xs.length : Nat)) := rfl
theorem sp_len0 : stepP (evl [.nil]) (.len false (.t 0)) = some (.int .i64 ((0 : Nat) : Int)) := rfl
theorem sp_ia {α : Type} [Inhabited α] {f : α → V} {xs : List α} {s i : Nat} (h : i < xs.length) (hc : ∀ y, (f y).cells.length = s) : stepP (evl [.lst (xs.map f), .int k (i : Nat)]) (.iad s (.t 0) (.t 1)) = some (.cptr (f (nth xs i)).cells) := by
  simp only [stepP, evl, List.getD_cons_zero, List.getD_cons_succ, List.length_map, ixOf_nat h, List.getElem?_map, getI h, Option.map_some, Option.bind_eq_bind, Option.bind_some, hc, if_true]
theorem sp_iz {α : Type} [Inhabited α] {f : α → V} {xs : List α} {s : Nat} (h : 0 ≤ n ∧ n < (xs.length : Int)) (hc : ∀ y, (f y).cells.length = s) : stepP (evl [.lst (xs.map f), .int k n]) (.iad s (.t 0) (.t 1)) = some (.cptr (f (nth xs n.toNat)).cells) := by
  obtain ⟨i, rfl⟩ : ∃ i : Nat, n = (i : Nat) := ⟨n.toNat, by omega⟩
  exact sp_ia (by omega) hc
theorem sp_ix {t : List UInt8} {i : Nat} (h : i < t.length) : stepP (evl [.str t, .int k (i : Nat)]) (.ixs (.t 0) (.t 1)) = some (.int .u8 ((nth t i).toNat : Nat)) := by
  simp only [stepP, evl, List.getD_cons_zero, List.getD_cons_succ, ixOf_nat h, getI h, Option.bind_eq_bind, Option.bind_some]
theorem sp_ixz {t : List UInt8} (h : 0 ≤ n ∧ n < (t.length : Int)) : stepP (evl [.str t, .int k n]) (.ixs (.t 0) (.t 1)) = some (.int .u8 ((nth t n.toNat).toNat : Nat)) := by
  obtain ⟨i, rfl⟩ : ∃ i : Nat, n = (i : Nat) := ⟨n.toNat, by omega⟩
  exact sp_ix (by omega)
theorem sp_fa {cs : List V} {o : Nat} (h : Nat.blt o cs.length = true) : stepP (evl [.cptr cs]) (.fad o (.t 0)) = some (.cptr (cs.drop o)) := by
  simp only [stepP, evl, List.getD_cons_zero]; rw [if_pos (by simpa [Nat.blt_eq] using h)]
theorem sp_fap {id s i fo o : Nat} : stepP (evl [.ptr id s i fo]) (.fad o (.t 0)) = some (.ptr id s i (fo + o)) := rfl
theorem sp_nkp {id s i fo : Nat} : stepP (evl [.ptr id s i fo]) (.nilck (.t 0)) = some (.ptr id s i fo) := rfl
theorem sp_nkc {cs : List V} : stepP (evl [.cptr cs]) (.nilck (.t 0)) = some (.cptr cs) := rfl
theorem sp_xt {vs : List V} {i : Nat} {v : V} (h : vs[i]? = some v) : stepP (evl [.tup vs]) (.ext (.t 0) i) = some v := by
  simp only [stepP, evl, List.getD_cons_zero, h]
theorem sp_conv {k' : IntKind} (h : k'.wrap m = m) : stepP (evl [.int k m]) (.conv k' (.t 0)) = some (.int k' m) := by
  simp only [stepP, evl, List.getD_cons_zero, h]
theorem sp_build {z : List V} {ps : List (Nat × Nat × Opd)} {vs cs : List V} (h : buildCells z (ps.map fun p => (p.1, p.2.1, evl vs p.2.2)) = some cs) : stepP (evl vs) (.build z ps) = some (.agg cs) := by
  simp only [stepP, h, Option.map_some]
/-! What depends on memory: the length of a slice of one's own, what lies at an address. -/
theorem e_len {x : V} (ha : Ev T A L a x) (h : ∀ H, HP H L → stepP (evl [x]) (.len false (.t 0)) = some w) : Ev T A L (B.len a) w := fun H hp => by
  simp only [evE, evEs, ha H hp, h H hp]
theorem l_pure {x : V} (h : stepP (evl [x]) (.len false (.t 0)) = some w) : ∀ H, HP H L → stepP (evl [x]) (.len false (.t 0)) = some w := fun _ _ => h
theorem l_own {g : Hd} {s : Nat} {fl : Bool} {xs : List V} (hm : HE.own g s fl xs ∈ L) : ∀ H, HP H L → stepP (evl [g.v]) (.len false (.t 0)) = some (.int .i64 (xs.length : Nat)) := fun H hp => by
  rcases hp.all _ hm with ⟨rfl, rfl⟩ | ⟨id, rfl, _⟩ <;> rfl
theorem l_ownm {α : Type} {f : α → V} {g : Hd} {s : Nat} {fl : Bool} {xs : List α} (hm : HE.own g s fl (xs.map f) ∈ L) : ∀ H, HP H L → stepP (evl [g.v]) (.len false (.t 0)) = some (.int .i64 (xs.length : Nat)) := fun H hp => by
  have := l_own hm H hp; rw [List.length_map] at this; exact this
/-- What lies at an address. -/
def LdP (L : List HE) (sh : Sh) (x w : V) : Prop := ∀ H, HP H L → stepR (evl [x]) H (.load sh (.t 0)) = some w
theorem e_lp {sh : Sh} {x : V} (ha : Ev T A L a x) (h : LdP L sh x w) : Ev T A L (.r (.load sh (.t 0)) [a]) w := ev_r1 ha h
theorem ld_c {cs : List V} {sh : Sh} (h : part sh cs 0 = some w) : LdP L sh (.cptr cs) w := fun _ _ => h
theorem ld_p {sh : Sh} {id s i fo : Nat} {fl : Bool} {ys : List V} {x : V} (hm : HE.ob id (.row s fl ys) ∈ L) (hx : ys[i]? = some x) (h : part sh x.cells fo = some w) : LdP L sh (.ptr id s i fo) w := fun H hp => by
  have := hp.all _ hm
  simp only [HE.holds] at this
  simp only [stepR, evl, List.getD_cons_zero, rowAt_of this, Option.bind_eq_bind, Option.bind_some, hx, h]
/-- What lies at the i-th of a slice, from cell o on. -/
def LdI (L : List HE) (sh : Sh) (s o : Nat) (x y w : V) : Prop := ∀ H, HP H L → ∃ p, stepP (evl [x, y]) (.iad s (.t 0) (.t 1)) = some p ∧ ∃ q, stepP (evl [p]) (.fad o (.t 0)) = some q ∧ stepR (evl [q]) H (.load sh (.t 0)) = some w
theorem e_lfi {sh : Sh} {s o : Nat} {x y : V} (ha : Ev T A L a x) (hb : Ev T A L b y) (h : LdI L sh s o x y w) : Ev T A L (.r (.load sh (.t 0)) [.p (.fad o (.t 0)) [.p (.iad s (.t 0) (.t 1)) [a, b]]]) w := fun H hp => by
  obtain ⟨p, h1, q, h2, h3⟩ := h H hp
  simp only [evE, evEs, ha H hp, hb H hp, h1, h2, h3]
def LdJ (L : List HE) (sh : Sh) (s : Nat) (x y w : V) : Prop := ∀ H, HP H L → ∃ p, stepP (evl [x, y]) (.iad s (.t 0) (.t 1)) = some p ∧ stepR (evl [p]) H (.load sh (.t 0)) = some w
theorem e_li {sh : Sh} {s : Nat} {x y : V} (ha : Ev T A L a x) (hb : Ev T A L b y) (h : LdJ L sh s x y w) : Ev T A L (.r (.load sh (.t 0)) [.p (.iad s (.t 0) (.t 1)) [a, b]]) w := fun H hp => by
  obtain ⟨p, h1, h3⟩ := h H hp
  simp only [evE, evEs, ha H hp, hb H hp, h1, h3]
section
variable {α : Type} [Inhabited α] {f : α → V} {xs : List α} {s i o : Nat} {sh : Sh} {g : Hd} {fl : Bool}
theorem ldi_l (h : i < xs.length) (hc : ∀ y, (f y).cells.length = s) (ho : Nat.blt o s = true) (hw : part sh ((f (nth xs i)).cells.drop o) 0 = some w) : LdI L sh s o (.lst (xs.map f)) (.int k (i : Nat)) w := fun H hp =>
  ⟨_, sp_ia h hc, _, sp_fa (by rw [hc]; exact ho), hw⟩
theorem ldi_z (h : 0 ≤ n ∧ n < (xs.length : Int)) (hc : ∀ y, (f y).cells.length = s) (ho : Nat.blt o s = true) (hw : part sh ((f (nth xs n.toNat)).cells.drop o) 0 = some w) : LdI L sh s o (.lst (xs.map f)) (.int k n) w := fun H hp =>
  ⟨_, sp_iz h hc, _, sp_fa (by rw [hc]; exact ho), hw⟩
omit [Inhabited α] in
theorem own_ia (hm : HE.own g s fl (xs.map f) ∈ L) (h : i < xs.length) {H : Heap} (hp : HP H L) : ∃ id, stepP (evl [g.v, .int k (i : Nat)]) (.iad s (.t 0) (.t 1)) = some (.ptr id s i 0) ∧ rowAt H id s = some (fl, xs.map f) := by
  obtain ⟨id, rfl, h2⟩ := own_at (hp.all _ hm) (i := i) (by simpa using h)
  exact ⟨id, by simp only [Hd.v, stepP, evl, List.getD_cons_zero, List.getD_cons_succ, List.length_map, ixOf_nat h, Option.bind_eq_bind, Option.bind_some, if_true, Nat.zero_add], rowAt_of h2⟩
theorem ldi_o (hm : HE.own g s fl (xs.map f) ∈ L) (h : i < xs.length) (hw : part sh (f (nth xs i)).cells o = some w) : LdI L sh s o g.v (.int k (i : Nat)) w := fun H hp => by
  obtain ⟨id, h1, h2⟩ := own_ia hm h hp
  refine ⟨_, h1, _, sp_fap, ?_⟩
  simp only [stepR, evl, List.getD_cons_zero, h2, Option.bind_eq_bind, Option.bind_some, List.getElem?_map, getI h, Option.map_some, Nat.zero_add, hw]
theorem ldi_oz (hm : HE.own g s fl (xs.map f) ∈ L) (h : 0 ≤ n ∧ n < (xs.length : Int)) (hw : part sh (f (nth xs n.toNat)).cells o = some w) : LdI L sh s o g.v (.int k n) w := by
  obtain ⟨i, rfl⟩ : ∃ i : Nat, n = (i : Nat) := ⟨n.toNat, by omega⟩
  exact ldi_o hm (by omega) hw
theorem ldj_l (h : i < xs.length) (hc : ∀ y, (f y).cells.length = s) (hw : part sh (f (nth xs i)).cells 0 = some w) : LdJ L sh s (.lst (xs.map f)) (.int k (i : Nat)) w := fun H hp => ⟨_, sp_ia h hc, hw⟩
theorem ldj_z (h : 0 ≤ n ∧ n < (xs.length : Int)) (hc : ∀ y, (f y).cells.length = s) (hw : part sh (f (nth xs n.toNat)).cells 0 = some w) : LdJ L sh s (.lst (xs.map f)) (.int k n) w := fun H hp => ⟨_, sp_iz h hc, hw⟩
theorem ldj_o (hm : HE.own g s fl (xs.map f) ∈ L) (h : i < xs.length) (hw : part sh (f (nth xs i)).cells 0 = some w) : LdJ L sh s g.v (.int k (i : Nat)) w := fun H hp => by
  obtain ⟨id, h1, h2⟩ := own_ia hm h hp
  refine ⟨_, h1, ?_⟩
  simp only [stepR, evl, List.getD_cons_zero, h2, Option.bind_eq_bind, Option.bind_some, List.getElem?_map, getI h, Option.map_some, hw]
theorem ldj_oz (hm : HE.own g s fl (xs.map f) ∈ L) (h : 0 ≤ n ∧ n < (xs.length : Int)) (hw : part sh (f (nth xs n.toNat)).cells 0 = some w) : LdJ L sh s g.v (.int k n) w := by
  obtain ⟨i, rfl⟩ : ∃ i : Nat, n = (i : Nat) := ⟨n.toNat, by omega⟩
  exact ldj_o hm (by omega) hw
end
/-- Looking up in a map. -/
theorem e_look {kt : KT} {z : V} {ok : Bool} {id : Nat} {es : List (V × V)} {key : V} (ha : Ev T A L a (.map id)) (hb : Ev T A L b key) (hm : HE.ob id (.map kt es) ∈ L) (hk : kt.conf key = true)
    (hw : (match mget es key with | some v => (if ok then V.tup [v, .bool true] else v) | none => (if ok then .tup [z, .bool false] else z)) = w) : Ev T A L (.r (.look kt z ok (.t 0) (.t 1)) [a, b]) w := fun H hp => by
  have := hp.all _ hm
  simp only [HE.holds] at this
  simp only [evE, evEs, ha H hp, hb H hp, stepR, evl, List.getD_cons_zero, List.getD_cons_succ, hk, if_true, this]
  rw [← hw]
  cases mget es key <;> rfl
end
end
end Go.AM

/- Rules whose asides are told by their kind. -/
set_option linter.unusedVariables false
set_option linter.unusedSimpArgs false
namespace Go.AM
/-- It holds by reckoning. -/
structure RF (p : Prop) : Prop where
  h : p
/-- It holds by arithmetic. -/
structure OM (p : Prop) : Prop where
  h : p
/-- One step. -/
structure SP (vs : List V) (o : POp) (v : V) : Prop where
  h : stepP (evl vs) o = some v
section
variable {T : Nat → Option Fn} {A : Sl} {L : List HE} {a b : E} {k : IntKind} {m n : Int} {w : V}
theorem p_not {p : Bool} : SP [.bool p] (.un .not (.t 0)) (.bool (!p)) := ⟨sp_not⟩
theorem p_lt : SP [.int k m, .int k n] (.bin .lss (.t 0) (.t 1)) (.bool (decide (m < n))) := ⟨sp_lt⟩
theorem p_le : SP [.int k m, .int k n] (.bin .leq (.t 0) (.t 1)) (.bool (decide (m ≤ n))) := ⟨sp_le⟩
theorem p_gt : SP [.int k m, .int k n] (.bin .gtr (.t 0) (.t 1)) (.bool (decide (n < m))) := ⟨sp_gt⟩
theorem p_ge : SP [.int k m, .int k n] (.bin .geq (.t 0) (.t 1)) (.bool (decide (n ≤ m))) := ⟨sp_ge⟩
theorem p_eq : SP [.int k m, .int k n] (.bin .eql (.t 0) (.t 1)) (.bool (decide (m = n))) := ⟨sp_eq⟩
theorem p_ne : SP [.int k m, .int k n] (.bin .neq (.t 0) (.t 1)) (.bool (!decide (m = n))) := ⟨sp_ne⟩
theorem p_eqs {s t : List UInt8} : SP [.str s, .str t] (.bin .eql (.t 0) (.t 1)) (.bool (decide (s = t))) := ⟨sp_eqs⟩
theorem p_nes {s t : List UInt8} : SP [.str s, .str t] (.bin .neq (.t 0) (.t 1)) (.bool (!decide (s = t))) := ⟨sp_nes⟩
theorem p_inc {i : Nat} (h : OM (i < 9223372036854775807)) : SP [.int .i64 (i : Nat), .int .i64 1] (.bin .add (.t 0) (.t 1)) (.int .i64 ((i + 1 : Nat) : Int)) := ⟨sp_inc h.h⟩
theorem p_addn {i j : Nat} (h : OM (i + j < 9223372036854775808)) : SP [.int .i64 (i : Nat), .int .i64 (j : Nat)] (.bin .add (.t 0) (.t 1)) (.int .i64 ((i + j : Nat) : Int)) := ⟨sp_addn h.h⟩
theorem p_add (h : OM (-9223372036854775808 ≤ m + n ∧ m + n ≤ 9223372036854775807)) : SP [.int .i64 m, .int .i64 n] (.bin .add (.t 0) (.t 1)) (.int .i64 (m + n)) := ⟨sp_add h.h⟩
theorem p_sub (h : OM (-9223372036854775808 ≤ m - n ∧ m - n ≤ 9223372036854775807)) : SP [.int .i64 m, .int .i64 n] (.bin .sub (.t 0) (.t 1)) (.int .i64 (m - n)) := ⟨sp_sub h.h⟩
theorem p_mul (h : OM (-9223372036854775808 ≤ m * n ∧ m * n ≤ 9223372036854775807)) : SP [.int .i64 m, .int .i64 n] (.bin .mul (.t 0) (.t 1)) (.int .i64 (m * n)) := ⟨sp_mul h.h⟩
theorem p_adds {s t : List UInt8} (h : OM (s.length + t.length ≤ 4611686018427387904)) : SP [.str s, .str t] (.bin .add (.t 0) (.t 1)) (.str (s ++ t)) := ⟨sp_adds h.h⟩
theorem p_sln {s : List UInt8} : SP [.str s] (.len true (.t 0)) (.int .i64 (s.length : Nat)) := ⟨sp_sln⟩
theorem p_lenm {α : Type} {f : α → V} {xs : List α} : SP [.lst (xs.map f)] (.len false (.t 0)) (.int .i64 (xs.length : Nat)) := ⟨sp_lenm⟩
theorem p_len {xs : List V} : SP [.lst xs] (.len false (.t 0)) (.int .i64 (xs.length : Nat)) := ⟨sp_len⟩
theorem p_len0 : SP [.nil] (.len false (.t 0)) (.int .i64 ((0 : Nat) : Int)) := ⟨sp_len0⟩
theorem p_ia {α : Type} [Inhabited α] {f : α → V} {xs : List α} {s i : Nat} (h : OM (i < xs.length)) (hc : RF (∀ y, (f y).cells.length = s)) : SP [.lst (xs.map f), .int k (i : Nat)] (.iad s (.t 0) (.t 1)) (.cptr (f (nth xs i)).cells) := ⟨sp_ia h.h hc.h⟩
theorem p_iz {α : Type} [Inhabited α] {f : α → V} {xs : List α} {s : Nat} (h : OM (0 ≤ n ∧ n < (xs.length : Int))) (hc : RF (∀ y, (f y).cells.length = s)) : SP [.lst (xs.map f), .int k n] (.iad s (.t 0) (.t 1)) (.cptr (f (nth xs n.toNat)).cells) := ⟨sp_iz h.h hc.h⟩
theorem p_ix {t : List UInt8} {i : Nat} (h : OM (i < t.length)) : SP [.str t, .int k (i : Nat)] (.ixs (.t 0) (.t 1)) (.int .u8 ((nth t i).toNat : Nat)) := ⟨sp_ix h.h⟩
theorem p_ixz {t : List UInt8} (h : OM (0 ≤ n ∧ n < (t.length : Int))) : SP [.str t, .int k n] (.ixs (.t 0) (.t 1)) (.int .u8 ((nth t n.toNat).toNat : Nat)) := ⟨sp_ixz h.h⟩
theorem p_fa {cs : List V} {o : Nat} (h : RF (Nat.blt o cs.length = true)) : SP [.cptr cs] (.fad o (.t 0)) (.cptr (cs.drop o)) := ⟨sp_fa h.h⟩
theorem p_fap {id s i fo o : Nat} : SP [.ptr id s i fo] (.fad o (.t 0)) (.ptr id s i (fo + o)) := ⟨sp_fap⟩
theorem p_nkp {id s i fo : Nat} : SP [.ptr id s i fo] (.nilck (.t 0)) (.ptr id s i fo) := ⟨sp_nkp⟩
theorem p_nkc {cs : List V} : SP [.cptr cs] (.nilck (.t 0)) (.cptr cs) := ⟨sp_nkc⟩
theorem p_xt {vs : List V} {i : Nat} {v : V} (h : RF (vs[i]? = some v)) : SP [.tup vs] (.ext (.t 0) i) v := ⟨sp_xt h.h⟩
theorem p_conv {k' : IntKind} (h : RF (k'.wrap m = m)) : SP [.int k m] (.conv k' (.t 0)) (.int k' m) := ⟨sp_conv h.h⟩
theorem p_build {z : List V} {ps : List (Nat × Nat × Opd)} {vs cs : List V} (h : RF (buildCells z (ps.map fun p => (p.1, p.2.1, evl vs p.2.2)) = some cs)) : SP vs (.build z ps) (.agg cs) := ⟨sp_build h.h⟩
theorem bd_i {m : Nat} {d : Nat} (h : 0 ≤ n ∧ n ≤ (m : Int)) : bdOf (some (.int k n)) d m = some n.toNat := by simp only [bdOf, if_pos h]
theorem p_slo {t : List UInt8} (h : OM (0 ≤ n ∧ n ≤ (t.length : Int))) : SP [.str t, .int k n] (.sls (.t 0) (some (.t 1)) none) (.str (t.drop n.toNat)) := ⟨by
  simp only [stepP, Option.map_none, Option.map_some, evl, List.getD_cons_zero, List.getD_cons_succ, bdOf, Option.bind_eq_bind, Option.bind_some, if_pos h.h]
  rw [List.take_of_length_le (by simp)]⟩
theorem p_shi {t : List UInt8} (h : OM (0 ≤ n ∧ n ≤ (t.length : Int))) : SP [.str t, .int k n] (.sls (.t 0) none (some (.t 1))) (.str (t.take n.toNat)) := ⟨by
  simp only [stepP, Option.map_none, Option.map_some, evl, List.getD_cons_zero, List.getD_cons_succ, bdOf, Option.bind_eq_bind, Option.bind_some, if_pos h.h, List.drop_zero, Nat.sub_zero]⟩
theorem p_slh {t : List UInt8} (h : OM (0 ≤ m ∧ m ≤ n ∧ n ≤ (t.length : Int))) : SP [.str t, .int k m, .int k n] (.sls (.t 0) (some (.t 1)) (some (.t 2))) (.str ((t.drop m.toNat).take (n.toNat - m.toNat))) := ⟨by
  have h := h.h
  simp only [stepP, Option.map_none, Option.map_some, evl, List.getD_cons_zero, List.getD_cons_succ, bdOf, Option.bind_eq_bind]
  rw [if_pos ⟨by omega, h.2.2⟩]
  simp only [Option.bind_some]
  rw [if_pos ⟨h.1, by omega⟩]
  rfl⟩
section
variable {α : Type} {f : α → V} {xs : List α} {s : Nat}
theorem all_len (hc : ∀ y, (f y).cells.length = s) : ((xs.map f).all fun x => x.cells.length == s) = true := by simp [hc]
theorem p_clo (h : OM (0 ≤ n ∧ n ≤ (xs.length : Int))) (hc : RF (∀ y, (f y).cells.length = s)) : SP [.lst (xs.map f), .int k n] (.slc s (.t 0) (some (.t 1)) none) (.lst ((xs.drop n.toNat).map f)) := ⟨by
  simp only [stepP, Option.map_none, Option.map_some, evl, List.getD_cons_zero, List.getD_cons_succ, bdOf, Option.bind_eq_bind, Option.bind_some, List.length_map, if_pos h.h, all_len hc.h, if_true]
  rw [List.take_of_length_le (by simp), List.map_drop]⟩
theorem p_chi (h : OM (0 ≤ n ∧ n ≤ (xs.length : Int))) (hc : RF (∀ y, (f y).cells.length = s)) : SP [.lst (xs.map f), .int k n] (.slc s (.t 0) none (some (.t 1))) (.lst ((xs.take n.toNat).map f)) := ⟨by
  simp only [stepP, Option.map_none, Option.map_some, evl, List.getD_cons_zero, List.getD_cons_succ, bdOf, Option.bind_eq_bind, Option.bind_some, List.length_map, if_pos h.h, all_len hc.h, if_true, List.drop_zero, Nat.sub_zero, List.map_take]⟩
end
theorem p_beq {p q : Bool} : SP [.bool p, .bool q] (.beq false (.t 0) (.t 1)) (.bool (decide (p = q))) := ⟨by
  simp only [stepP, evl, List.getD_cons_zero, List.getD_cons_succ, Bool.false_bne]⟩
theorem p_bne {p q : Bool} : SP [.bool p, .bool q] (.beq true (.t 0) (.t 1)) (.bool (!decide (p = q))) := ⟨by
  simp only [stepP, evl, List.getD_cons_zero, List.getD_cons_succ, Bool.true_bne]⟩
theorem p_seq {ks : List SK} {cs ds : List V} (h : RF ((confs ks cs && confs ks ds) = true)) : SP [.agg cs, .agg ds] (.eqs false ks (.t 0) (.t 1)) (.bool (decide (cs = ds))) := ⟨by
  simp only [stepP, evl, List.getD_cons_zero, List.getD_cons_succ, h.h, if_true, Bool.false_bne]⟩
theorem p_sne {ks : List SK} {cs ds : List V} (h : RF ((confs ks cs && confs ks ds) = true)) : SP [.agg cs, .agg ds] (.eqs true ks (.t 0) (.t 1)) (.bool (!decide (cs = ds))) := ⟨by
  simp only [stepP, evl, List.getD_cons_zero, List.getD_cons_succ, h.h, if_true, Bool.true_bne]⟩
theorem p_iar {id s s' i fo len : Nat} (h : OM (0 ≤ n ∧ n < (len : Int))) : SP [.ptr id s' i fo, .int k n] (.iar len s (.t 0) (.t 1)) (.ptr id s' i (fo + n.toNat * s)) := ⟨by
  simp only [stepP, evl, List.getD_cons_zero, List.getD_cons_succ, ixOf_in h.h, Option.bind_eq_bind, Option.bind_some]⟩
theorem q_1 {o : POp} {x v : V} (ha : Ev T A L a x) (h : SP [x] o v) : Ev T A L (.p o [a]) v := ev_1 ha h.h
theorem q_2 {o : POp} {x y v : V} (ha : Ev T A L a x) (hb : Ev T A L b y) (h : SP [x, y] o v) : Ev T A L (.p o [a, b]) v := ev_2 ha hb h.h
theorem q_p {o : POp} {es : List E} {vs : List V} {v : V} (hs : EvL T A L es vs) (h : SP vs o v) : Ev T A L (.p o es) v := ev_p hs h.h
theorem q_s {i : Nat} {v : V} (h : Gt A i v) (hk : RF (v.known = true)) : Ev T A L (.s i) v := ev_s h.get hk.h
structure LN (L : List HE) (x w : V) : Prop where
  h : ∀ H, HP H L → stepP (evl [x]) (.len false (.t 0)) = some w
theorem q_len {x : V} (ha : Ev T A L a x) (h : LN L x w) : Ev T A L (B.len a) w := e_len ha h.h
structure Mem (e : HE) (L : List HE) : Prop where
  h : e ∈ L
theorem m_here {e : HE} : Mem e (e :: L) := ⟨List.mem_cons_self⟩
theorem m_there {e e' : HE} (h : Mem e L) : Mem e (e' :: L) := ⟨List.mem_cons_of_mem _ h.h⟩
theorem n_lm {α : Type} {f : α → V} {xs : List α} : LN L (.lst (xs.map f)) (.int .i64 (xs.length : Nat)) := ⟨l_pure sp_lenm⟩
theorem n_l {xs : List V} : LN L (.lst xs) (.int .i64 (xs.length : Nat)) := ⟨l_pure sp_len⟩
theorem n_0 : LN L .nil (.int .i64 ((0 : Nat) : Int)) := ⟨l_pure sp_len0⟩
theorem n_om {α : Type} {f : α → V} {g : Hd} {s : Nat} {fl : Bool} {xs : List α} (hm : Mem (.own g s fl (xs.map f)) L) : LN L g.v (.int .i64 (xs.length : Nat)) := ⟨l_ownm hm.h⟩
theorem n_o {g : Hd} {s : Nat} {fl : Bool} {xs : List V} (hm : Mem (.own g s fl xs) L) : LN L g.v (.int .i64 (xs.length : Nat)) := ⟨l_own hm.h⟩
/-- A part of cells. -/
structure PT (sh : Sh) (cs : List V) (o : Nat) (w : V) : Prop where
  h : part sh cs o = some w
def V.isA : V → Bool
  | .agg _ => true
  | _ => false
theorem t_all {v : V} {n : Nat} (h : RF (v.cells.length = n)) (ha : RF (v.isA = true)) : PT ⟨true, n⟩ v.cells 0 v := ⟨by
  obtain ⟨h⟩ := h
  obtain ⟨ha⟩ := ha
  cases v with
  | agg cs =>
    have h' : cs.length = n := h
    show (if 0 + n ≤ cs.length then some (V.agg ((cs.drop 0).take n)) else none) = _
    rw [if_pos (by omega), List.drop_zero, ← h', List.take_length]
  | _ => cases ha⟩
structure XI (ys : List V) (i : Nat) (x : V) : Prop where
  h : ys[i]? = some x
theorem d_c {cs : List V} {sh : Sh} (h : PT sh cs 0 w) : LdP L sh (.cptr cs) w := ld_c h.h
theorem d_p {sh : Sh} {id s i fo : Nat} {fl : Bool} {ys : List V} {x : V} (hm : Mem (.ob id (.row s fl ys)) L) (hx : XI ys i x) (h : PT sh x.cells fo w) : LdP L sh (.ptr id s i fo) w := ld_p hm.h hx.h h.h
section
variable {α : Type} [Inhabited α] {f : α → V} {xs : List α} {s i o : Nat} {sh : Sh} {g : Hd} {fl : Bool}
theorem i_l (h : OM (i < xs.length)) (hc : RF (∀ y, (f y).cells.length = s)) (ho : RF (Nat.blt o s = true)) (hw : PT sh ((f (nth xs i)).cells.drop o) 0 w) : LdI L sh s o (.lst (xs.map f)) (.int k (i : Nat)) w := ldi_l h.h hc.h ho.h hw.h
theorem i_z (h : OM (0 ≤ n ∧ n < (xs.length : Int))) (hc : RF (∀ y, (f y).cells.length = s)) (ho : RF (Nat.blt o s = true)) (hw : PT sh ((f (nth xs n.toNat)).cells.drop o) 0 w) : LdI L sh s o (.lst (xs.map f)) (.int k n) w := ldi_z h.h hc.h ho.h hw.h
theorem i_o {α : Type} {inst : Inhabited α} {f : α → V} {xs : List α} (hm : Mem (.own g s fl (xs.map f)) L) (h : OM (i < xs.length)) (hw : PT sh (f (nth xs i)).cells o w) : LdI L sh s o g.v (.int k (i : Nat)) w := ldi_o hm.h h.h hw.h
theorem i_oz {α : Type} {inst : Inhabited α} {f : α → V} {xs : List α} (hm : Mem (.own g s fl (xs.map f)) L) (h : OM (0 ≤ n ∧ n < (xs.length : Int))) (hw : PT sh (f (nth xs n.toNat)).cells o w) : LdI L sh s o g.v (.int k n) w := ldi_oz hm.h h.h hw.h
theorem j_l (h : OM (i < xs.length)) (hc : RF (∀ y, (f y).cells.length = s)) (hw : PT sh (f (nth xs i)).cells 0 w) : LdJ L sh s (.lst (xs.map f)) (.int k (i : Nat)) w := ldj_l h.h hc.h hw.h
theorem j_z (h : OM (0 ≤ n ∧ n < (xs.length : Int))) (hc : RF (∀ y, (f y).cells.length = s)) (hw : PT sh (f (nth xs n.toNat)).cells 0 w) : LdJ L sh s (.lst (xs.map f)) (.int k n) w := ldj_z h.h hc.h hw.h
theorem j_o {α : Type} {inst : Inhabited α} {f : α → V} {xs : List α} (hm : Mem (.own g s fl (xs.map f)) L) (h : OM (i < xs.length)) (hw : PT sh (f (nth xs i)).cells 0 w) : LdJ L sh s g.v (.int k (i : Nat)) w := ldj_o hm.h h.h hw.h
theorem j_oz {α : Type} {inst : Inhabited α} {f : α → V} {xs : List α} (hm : Mem (.own g s fl (xs.map f)) L) (h : OM (0 ≤ n ∧ n < (xs.length : Int))) (hw : PT sh (f (nth xs n.toNat)).cells 0 w) : LdJ L sh s g.v (.int k n) w := ldj_oz hm.h h.h hw.h
end
structure LK (kt : KT) (z : V) (ok : Bool) (es : List (V × V)) (key w : V) : Prop where
  h : (match mget es key with | some v => (if ok then V.tup [v, .bool true] else v) | none => (if ok then .tup [z, .bool false] else z)) = w
theorem q_look {kt : KT} {z : V} {ok : Bool} {id : Nat} {es : List (V × V)} {key : V} (ha : Ev T A L a (.map id)) (hb : Ev T A L b key) (hm : Mem (.ob id (.map kt es)) L) (hk : RF (kt.conf key = true)) (hw : LK kt z ok es key w) : Ev T A L (.r (.look kt z ok (.t 0) (.t 1)) [a, b]) w := e_look ha hb hm.h hk.h hw.h
theorem q_and {p q : Bool} {P : Prop} (ha : Ev T A L a (.bool p)) (hp : Rf p P) (hb : P → Ev T A L b (.bool q)) : Ev T A L (.and a b) (.bool (p && q)) := ev_and ha fun h => hb (hp.eq ▸ h)
theorem q_or {p q : Bool} {P : Prop} (ha : Ev T A L a (.bool p)) (hp : Rf p P) (hb : ¬ P → Ev T A L b (.bool q)) : Ev T A L (.or a b) (.bool (p || q)) := ev_or ha fun h => hb (by rw [← hp.eq, h]; simp)
/-! Reading to the depth. -/
theorem u_d {k : Nat} {v : V} (h : RF (v.isD = true)) : Dp L (k + 2) v v := dp_d h.h
/-- The elements, read to their depth. -/
inductive DE (L : List HE) : Nat → Bool → List V → List V → Prop where
  | flat {k : Nat} {fl : Bool} {α : Type} {f : α → V} {xs : List α} (h : RF (∀ y, (f y).isD = true)) : DE L (k + 2) fl (xs.map f) (xs.map f)
  | data {k : Nat} {fl : Bool} {xs : List V} (h : RF (xs.all V.isD = true)) : DE L (k + 2) fl xs xs
  | refs {k : Nat} {xs ds : List V} (h : Dps L k xs ds) : DE L k false xs ds
theorem u_own {k : Nat} {g : Hd} {s : Nat} {fl : Bool} {xs ds : List V} (hm : Mem (.own g s fl xs) L) (h : DE L k fl xs ds) : Dp L (k + 1) g.v (.lst ds) := by
  cases h with
  | flat h => exact dp_ownm hm.h h.h
  | data h => exact dp_own hm.h h.h
  | refs h => exact dp_oo hm.h h
/-- Nothing in it is shared. -/
inductive FrL (L : List HE) : List V → Prop where
  | nil : FrL L []
  | own {g : Hd} {s : Nat} {xs r : List V} (h : Mem (.own g s true xs) L) (hr : FrL L r) : FrL L (g.v :: r)
  | flat {v : V} {r : List V} (h : RF (v.flat1 = true)) (hr : FrL L r) : FrL L (v :: r)
  | null {r : List V} (hr : FrL L r) : FrL L (.nil :: r)
theorem FrL.get {vs : List V} (h : FrL L vs) : ∀ x ∈ vs, Fresh L x := by
  induction h with
  | nil => simp
  | own h _ ih =>
    intro x hx
    rcases List.mem_cons.1 hx with rfl | hx
    · exact fr_own h.h
    · exact ih x hx
  | flat h _ ih =>
    intro x hx
    rcases List.mem_cons.1 hx with rfl | hx
    · exact fr_flat h.h
    · exact ih x hx
  | null _ ih =>
    intro x hx
    rcases List.mem_cons.1 hx with rfl | hx
    · exact fun H _ => rfl
    · exact ih x hx
inductive FrA (L : List HE) : List V → Prop where
  | nil : FrA L []
  | agg {cs r : List V} (h : FrL L cs) (hr : FrA L r) : FrA L (.agg cs :: r)
  | own {g : Hd} {s : Nat} {xs r : List V} (h : Mem (.own g s true xs) L) (hr : FrA L r) : FrA L (g.v :: r)
  | flat {v : V} {r : List V} (h : RF (v.flat1 = true)) (hr : FrA L r) : FrA L (v :: r)
  | null {r : List V} (hr : FrA L r) : FrA L (.nil :: r)
theorem flat1_cells {v : V} (h : v.flat1 = true) : v.cells = [v] := by cases v <;> first | rfl | cases h
theorem FrA.get {vs : List V} (h : FrA L vs) : ∀ x ∈ vs.flatMap V.cells, Fresh L x := by
  induction h with
  | nil => simp
  | agg h _ ih =>
    intro x hx
    rw [List.flatMap_cons, List.mem_append] at hx
    rcases hx with hx | hx
    · exact h.get x hx
    · exact ih x hx
  | own h _ ih =>
    intro x hx
    rw [List.flatMap_cons, Hd.cells, List.mem_append, List.mem_singleton] at hx
    rcases hx with rfl | hx
    · exact fr_own h.h
    · exact ih x hx
  | flat h _ ih =>
    intro x hx
    rw [List.flatMap_cons, flat1_cells h.h, List.mem_append, List.mem_singleton] at hx
    rcases hx with rfl | hx
    · exact fr_flat h.h
    · exact ih x hx
  | null _ ih =>
    intro x hx
    rw [List.flatMap_cons, List.mem_append] at hx
    rcases hx with hx | hx
    · cases hx with
      | head => exact fun H _ => rfl
      | tail _ h => cases h
    · exact ih x hx
theorem Hd.cellsT (g : Hd) : g.v.cellsT = [g.v] := by cases g <;> rfl
/-- What a function gives. -/
inductive FG (L : List HE) : RM → V → V → Prop where
  | froz {u v : V} (h : Dp L 8 u v) : FG L .froz u v
  | scal {u : V} (h : RF (u.cellsT.all V.flat1 = true)) : FG L .scal u u
  | fF1 {u v : V} (h : Dp L 8 u v) (hf : FrL L [u]) : FG L .frozF u v
  | fFa {cs : List V} {v : V} (h : Dp L 8 (.agg cs) v) (hf : FrL L cs) : FG L .frozF (.agg cs) v
  | fFt {cs : List V} {v : V} (h : Dp L 8 (.tup cs) v) (hf : FrA L cs) : FG L .frozF (.tup cs) v
theorem FG.get {rm : RM} {u v : V} (h : FG L rm u v) : Fin rm u L v := by
  cases h with
  | froz h => exact fin_froz h
  | scal h => exact fin_scal h.h
  | fF1 h hf =>
    have hx := hf.get u (by simp)
    refine fin_frozF h fun x hx' => ?_
    have hu : u.cellsT = [u] := by
      cases hf with
      | own hm _ => exact Hd.cellsT _
      | flat hv _ => cases u <;> first | rfl | cases hv.h
      | null _ => rfl
    rw [hu, List.mem_singleton] at hx'
    exact hx' ▸ hx
  | fFa h hf => exact fin_frozF h hf.get
  | fFt h hf => exact fin_frozF h hf.get
/-! Cells set one by one. -/
inductive S1 (v : V) : List V → Nat → List V → Prop where
  | here {w : V} {r : List V} : S1 v (w :: r) 0 (v :: r)
  | there {w : V} {r r' : List V} {k : Nat} (h : S1 v r k r') : S1 v (w :: r) (k + 1) (w :: r')
theorem S1.eq {v : V} {cs cs' : List V} {k : Nat} (h : S1 v cs k cs') : cs' = cs.set k v ∧ k < cs.length := by
  induction h with
  | here => exact ⟨rfl, by simp⟩
  | there _ ih => exact ⟨by rw [ih.1]; rfl, by simp only [List.length_cons]; omega⟩
inductive SN : List V → List V → Nat → List V → Prop where
  | nil {cs : List V} {k : Nat} : SN [] cs k cs
  | cons {d : V} {ds cs cs1 cs2 : List V} {k : Nat} (h1 : S1 d cs k cs1) (h : SN ds cs1 (Nat.succ k) cs2) : SN (d :: ds) cs k cs2
theorem set_len {v : V} {l : List V} {k : Nat} : (l.set k v).length = l.length := by simp
theorem sc_cons (cs : List V) (k : Nat) (d : V) (ds : List V) (hk : k < cs.length) : setCells (cs.set k d) (k + 1) ds = setCells cs k (d :: ds) := by
  simp only [setCells, List.length_cons]
  have h1 : (cs.set k d).take (k + 1) = cs.take k ++ [d] := by
    rw [List.take_add_one, List.take_set_of_le (by omega), List.getElem?_set_self hk]; rfl
  rw [h1, List.drop_set, if_pos (by omega), show k + (ds.length + 1) = k + 1 + ds.length by omega]
  simp
theorem SN.eq {ds cs cs' : List V} {k : Nat} (h : SN ds cs k cs') (hk : k ≤ cs.length) : setCells cs k ds = cs' ∧ k + ds.length ≤ cs.length := by
  induction h with
  | nil => exact ⟨by simp [setCells], by simpa using hk⟩
  | cons h1 _ ih =>
    obtain ⟨rfl, hlt⟩ := h1.eq
    have := ih (by rw [set_len]; omega)
    rw [set_len] at this
    refine ⟨?_, by simp only [List.length_cons]; omega⟩
    rw [← this.1]
    exact (sc_cons _ _ _ _ hlt).symm
theorem S1.cells {v : V} {cs cs' : List V} {k : Nat} (h : S1 v cs k cs') : setCells cs k [v] = cs' ∧ k + 1 ≤ cs.length := by
  obtain ⟨rfl, hlt⟩ := h.eq
  refine ⟨?_, hlt⟩
  rw [← sc_cons _ _ _ _ hlt]
  simp [setCells]
/-- It is one cell. -/
inductive O1 : V → Prop where
  | mk {v : V} (h : RF (v.cells.length = 1 ∧ v.cells = [v] ∧ v.sc = true)) : O1 v
  | hd {g : Hd} : O1 g.v
theorem O1.cells {v : V} (h : O1 v) : v.cells = [v] ∧ v.sc = true := by
  cases h with
  | mk h => exact h.h.2
  | hd => exact ⟨Hd.cells _, Hd.sc _⟩
inductive Bl (vs : List V) : List V → List (Nat × Nat × Opd) → List V → Prop where
  | nil {cs : List V} : Bl vs cs [] cs
  | one {cs cs' out : List V} {off j : Nat} {v : V} {r : List (Nat × Nat × Opd)} (hx : XI vs j v) (ho : O1 v) (hs : S1 v cs off cs') (h : Bl vs cs' r out) : Bl vs cs ((off, 1, .t j) :: r) out
  | agg {cs cs' out ds : List V} {off n j : Nat} {r : List (Nat × Nat × Opd)} (hx : XI vs j (.agg ds)) (hn : RF (ds.length = n)) (hc : RF (ds.all V.sc = true)) (ho : RF (Nat.ble off cs.length = true)) (hs : SN ds cs off cs') (h : Bl vs cs' r out) : Bl vs cs ((off, n, .t j) :: r) out
theorem evl_xi {vs : List V} {j : Nat} {v : V} (h : XI vs j v) : evl vs (.t j) = v := by simp only [evl, List.getD, h.h, Option.getD_some]
theorem Bl.eq {vs cs out : List V} {ps : List (Nat × Nat × Opd)} (h : Bl vs cs ps out) : buildCells cs (ps.map fun p => (p.1, p.2.1, evl vs p.2.2)) = some out := by
  induction h with
  | nil => rfl
  | one hx ho hs _ ih =>
    have hv := evl_xi hx
    simp only [List.map_cons, buildCells, hv, ho.cells.1]
    rw [if_pos ⟨rfl, hs.cells.2, by simp [ho.cells.2]⟩, hs.cells.1]
    exact ih
  | agg hx hn hc ho hs _ ih =>
    have hv := evl_xi hx
    have hl := hs.eq (Nat.le_of_ble_eq_true ho.h)
    simp only [List.map_cons, buildCells, hv]
    rw [if_pos ⟨hn.h, by rw [← hn.h]; exact hl.2, hc.h⟩]
    exact (congrArg (fun z => buildCells z _) hl.1).trans ih
theorem p_bl {z : List V} {ps : List (Nat × Nat × Opd)} {vs cs : List V} (h : Bl vs z ps cs) : SP vs (.build z ps) (.agg cs) := ⟨sp_build h.eq⟩
/-- What lies in a row behind a store. -/
inductive SW : List V → Nat → V → V → Nat → List V → Prop where
  | cell {x y : V} (hx : RF (x.isA = false)) : SW [x] 0 x y 0 [y]
  | one {cs cs' : List V} {y : V} {fo : Nat} (ho : O1 y) (hs : S1 y cs fo cs') : SW [.agg cs] 0 (.agg cs) y fo [.agg cs']
  | agg {cs cs' ds : List V} {fo : Nat} (ho : RF (Nat.ble fo cs.length = true)) (hs : SN ds cs fo cs') : SW [.agg cs] 0 (.agg cs) (.agg ds) fo [.agg cs']
theorem SW.eq {ys ys' : List V} {i fo : Nat} {x y : V} (h : SW ys i x y fo ys') : ys.set i (x.putAt y fo) = ys' := by
  cases h with
  | cell hx => cases x <;> first | rfl | (cases hx.h)
  | one ho hs => simp only [List.set, V.putAt, ho.cells.1, hs.cells.1]
  | agg ho hs => simp only [List.set, V.putAt, V.cells, (hs.eq (Nat.le_of_ble_eq_true ho.h)).1]
/-- A call that changes memory, whatever lies there. -/
class CEI (T : Nat → Option Fn) (f : Nat) (vs : List V) (P : outParam Prop) (R : outParam (List HE → V → List HE → Prop)) : Prop where
  ce : P → ∀ L, CE T f vs L (R L)
theorem c_i {f : Nat} {vs : List V} {P : Prop} {R : List HE → V → List HE → Prop} (hc : CEI T f vs P R) (hP : OM P) : CE T f vs L (R L) := hc.ce hP.h L
theorem x_p {f : Nat} {xs ds : List V} {fr : Bool} {P : Prop} {v : V} (hd : Dps L 8 xs ds) (hc : PCon T f ds fr P v) (hf : RF (fr = true → xs.all V.data = true)) (hP : OM P) : CX T L f xs v := .pure hd hc hf.h hP.h
theorem e_o {g : Hd} {s : Nat} {fl : Bool} {ys : List V} (h : Mem (.own g s fl ys) L) : El L g.v ys := el_own h.h
theorem s_t {i : Nat} {v : V} {rs : List Res} {vs : List V} (h : Gt A i v) (hk : RF (v.known = true)) (hs : RsR A L rs vs) : RsR A L (.t i :: rs) (v :: vs) := rr_g h hk.h hs
theorem s_c {i : Nat} {sh : Sh} {v : V} {rs : List Res} {vs : List V} {id s j fo : Nat} {fl : Bool} {ys : List V} {x : V} (h : Gt A i (.ptr id s j fo)) (hm : Mem (.ob id (.row s fl ys)) L) (hx : XI ys j x) (hv : PT sh x.cells fo v) (hs : RsR A L rs vs) : RsR A L (.cell i sh :: rs) (v :: vs) := rr_gc h hm.h hx.h hv.h hs
end
end Go.AM

/- Slices of slices; stores into slices of one's own. -/
set_option linter.unusedVariables false
set_option linter.unusedSimpArgs false
namespace Go.AM
/-- A place among the things of memory. -/
inductive Hole (e : HE) : List HE → (HE → List HE) → Prop where
  | here {r : List HE} : Hole e (e :: r) (fun e' => e' :: r)
  | there {h : HE} {r : List HE} {C : HE → List HE} (k : Hole e r C) : Hole e (h :: r) (fun e' => h :: C e')
theorem Hole.at {e : HE} {L : List HE} {C : HE → List HE} (h : Hole e L C) (e' : HE) : At e e' L (C e') := by
  induction h with
  | here => exact .here
  | there _ ih => exact .there ih
theorem Hole.move {e : HE} {L : List HE} {C : HE → List HE} (h : Hole e L C) (e' : HE) : Hole e' (C e') C := by
  induction h with
  | here => exact .here
  | there _ ih => exact .there ih
theorem Hole.fact {e : HE} {L : List HE} {C : HE → List HE} (h : Hole e L C) : Mem e L := ⟨(h.at e).mem⟩
theorem m_mv {e e' : HE} {L : List HE} {C : HE → List HE} (h : Hole e L C) : Mem e' (C e') := (h.move e').fact
theorem h_mv {e e' : HE} {L : List HE} {C : HE → List HE} (h : Hole e L C) : Hole e' (C e') C := h.move e'
/-- One row of many: data, or a slice of one's own. -/
inductive NE (α : Type) where
  | dat (xs : List α)
  | row (g : Hd) (xs : List α)
instance {α : Type} : Inhabited (NE α) := ⟨.dat []⟩
instance : Inhabited Hd := ⟨.nil⟩
section
variable {α : Type}
def NE.c : NE α → List α
  | .dat xs => xs
  | .row _ xs => xs
def NE.v (f : α → V) : NE α → V
  | .dat xs => .lst (xs.map f)
  | .row g _ => g.v
def NE.hs (s : Nat) (fl : Bool) (f : α → V) : NE α → List HE
  | .dat _ => []
  | .row g xs => [.own g s fl (xs.map f)]
def rows (s : Nat) (fl : Bool) (f : α → V) (es : List (NE α)) : List HE := es.flatMap (NE.hs s fl f)
variable {f : α → V} {s : Nat} {fl : Bool} {es : List (NE α)} {L : List HE}
theorem NE.cells (e : NE α) : (e.v f).cells = [e.v f] := by
  cases e with
  | dat => rfl
  | row g xs => exact g.cells
theorem NE.known (e : NE α) : (e.v f).known = true := by
  cases e with
  | dat => rfl
  | row g xs => exact g.known
theorem NE.isA (e : NE α) : (e.v f).isA = false := by
  cases e with
  | dat => rfl
  | row g xs => cases g <;> rfl
theorem ne_cells : RF (∀ y : NE α, (NE.v f y).cells.length = 1) := ⟨fun y => by rw [NE.cells]; rfl⟩
theorem ne_pt {e : NE α} : PT ⟨false, 1⟩ (e.v f).cells 0 (e.v f) := ⟨by rw [NE.cells]; rfl⟩
theorem rows_nil : rows s fl f [] = [] := rfl
theorem rows_app {a b : List (NE α)} : rows s fl f (a ++ b) = rows s fl f a ++ rows s fl f b := by simp [rows]
/-- The rows stand at the end. -/
inductive Tl (R : List HE) : List HE → Prop where
  | here : Tl R R
  | there {e : HE} {r : List HE} (h : Tl R r) : Tl R (e :: r)
theorem Tl.mem {R : List HE} (h : Tl R L) : ∀ e ∈ R, e ∈ L := by
  induction h with
  | here => exact fun _ h => h
  | there _ ih => exact fun e he => List.mem_cons_of_mem _ (ih e he)
theorem dp_in {k : Nat} {e : NE α} (hm : ∀ x ∈ e.hs s fl f, x ∈ L) (hf : ∀ y, (f y).isD = true) : Dp L (k + 3) (e.v f) (.lst (e.c.map f)) := by
  cases e with
  | dat xs => exact fun _ _ => rfl
  | row g xs => exact dp_ownm (g := g) (s := s) (fl := fl) (xs := xs) (hm _ (List.mem_singleton.2 rfl)) hf
theorem dps_rows {k : Nat} (hf : ∀ y, (f y).isD = true) : ∀ {es : List (NE α)}, (∀ x ∈ rows s fl f es, x ∈ L) → Dps L (k + 3) (es.map (NE.v f)) ((es.map NE.c).map fun l => .lst (l.map f))
  | [], _ => dps_nil
  | e :: r, h => dps_cons (dp_in (s := s) (fl := fl) (fun x hx => h x (by simp only [rows, List.flatMap_cons, List.mem_append]; exact .inl hx)) hf) (dps_rows hf fun x hx => h x (by
      simp only [rows, List.flatMap_cons, List.mem_append]; exact .inr hx))
theorem de_rows {k : Nat} (ht : Tl (rows s fl f es) L) (hf : RF (∀ y, (f y).isD = true)) : DE L (k + 3) false (es.map (NE.v f)) ((es.map NE.c).map fun l => .lst (l.map f)) := .refs (dps_rows hf.h ht.mem)
theorem in_rows {i : Nat} (h : i < es.length) : ∀ x ∈ (nth es i).hs s fl f, x ∈ rows s fl f es := fun x hx => by
  rw [rows, List.mem_flatMap]
  exact ⟨_, by rw [nth_eq h]; exact List.getElem_mem h, hx⟩
theorem u_row {k i : Nat} (ht : Tl (rows s fl f es) L) (hf : RF (∀ y, (f y).isD = true)) (h : OM (i < es.length)) : Dp L (k + 3) ((nth es i).v f) (.lst ((nth es i).c.map f)) := dp_in (fun x hx => ht.mem _ (in_rows h.h x hx)) hf.h
theorem n_row {i : Nat} (ht : Tl (rows s fl f es) L) (h : OM (i < es.length)) : LN L ((nth es i).v f) (.int .i64 ((nth es i).c.length : Nat)) := ⟨fun H hp => by
  have hm := fun x hx => ht.mem x (in_rows h.h x hx)
  cases he : nth es i with
  | dat xs => exact sp_lenm
  | row g xs => rw [he] at hm; exact l_ownm (g := g) (s := s) (fl := fl) (xs := xs) (hm _ (List.mem_singleton.2 rfl)) H hp⟩
theorem cut_at {es : List (NE α)} {i : Nat} (h : i < es.length) (e : NE α) : es = es.take i ++ nth es i :: es.drop (i + 1) ∧ es.set i e = es.take i ++ e :: es.drop (i + 1) := by
  constructor
  · conv => lhs; rw [← List.take_append_drop i es]
    rw [nth_eq h, List.drop_eq_getElem_cons h]
  · rw [List.set_eq_take_append_cons_drop, if_pos h]
/-- One row is taken out, and laid back. -/
theorem rows_out {i : Nat} (h : i < es.length) {g : Hd} {xs : List α} (he : nth es i = .row g xs) : (rows s fl f es).Perm (.own g s fl (xs.map f) :: rows s fl f (es.set i (.dat []))) := by
  obtain ⟨h1, h2⟩ := cut_at h (.dat [])
  rw [h2]
  conv => lhs; rw [h1, he]
  simp only [rows, List.flatMap_append, List.flatMap_cons, NE.hs, List.nil_append, List.singleton_append]
  exact List.perm_middle
theorem rows_in {i : Nat} (h : i < es.length) {g : Hd} {xs : List α} : List.Perm (.own g s fl (xs.map f) :: rows s fl f (es.set i (.dat []))) (rows s fl f (es.set i (.row g xs))) := by
  obtain ⟨h1, h2⟩ := cut_at h (.dat [])
  obtain ⟨_, h3⟩ := cut_at h (.row g xs)
  rw [h2, h3]
  simp only [rows, List.flatMap_append, List.flatMap_cons, NE.hs, List.nil_append, List.singleton_append]
  exact List.perm_middle.symm
theorem pm_out {P R R' : List HE} {e : HE} (h : R.Perm (e :: R')) : (P ++ R).Perm (e :: (P ++ R')) := (h.append_left P).trans List.perm_middle
theorem pm_in {P R R' : List HE} {e : HE} (h : List.Perm (e :: R') R) : List.Perm (e :: (P ++ R')) (P ++ R) := List.perm_middle.symm.trans (h.append_left P)
/-- A value, as one of a kind. -/
structure SE (f : α → V) (y : V) (z : α) : Prop where
  h : f z = y
theorem se_dat {xs : List α} : SE (NE.v f) (.lst (xs.map f)) (.dat xs) := ⟨rfl⟩
theorem se_row {g : Hd} {xs : List α} (hm : Mem (.own g s fl (xs.map f)) L) : SE (NE.v f) g.v (.row g xs) := ⟨rfl⟩
end
section
variable {T : Nat → Option Fn} {A : Sl} {L : List HE} {k : IntKind} {n : Int} {w : V}
/-! Addresses in a slice of one's own that is known by its name. -/
theorem p_ir {id s m i : Nat} (h : OM (i < m)) : SP [(Hd.ref id s m).v, .int k (i : Nat)] (.iad s (.t 0) (.t 1)) (.ptr id s i 0) := ⟨by
  simp only [Hd.v, stepP, evl, List.getD_cons_zero, List.getD_cons_succ, ixOf_nat h.h, Option.bind_eq_bind, Option.bind_some, if_true, Nat.zero_add]⟩
theorem p_irz {id s m : Nat} (h : OM (0 ≤ n ∧ n < (m : Int))) : SP [(Hd.ref id s m).v, .int k n] (.iad s (.t 0) (.t 1)) (.ptr id s n.toNat 0) := ⟨by
  simp only [Hd.v, stepP, evl, List.getD_cons_zero, List.getD_cons_succ, ixOf_in h.h, Option.bind_eq_bind, Option.bind_some, if_true, Nat.zero_add]⟩
variable {α : Type} {inst : Inhabited α} {f : α → V} {xs : List α} {s i fo : Nat} {sh : Sh} {fl : Bool}
theorem ref_at {id m : Nat} {xs : List V} {H : Heap} (hp : HP H L) (hm : HE.own (.ref id s m) s fl xs ∈ L) : H[id]? = some (.row s fl xs) := by
  rcases hp.all _ hm with ⟨h, _⟩ | ⟨id', h, h2⟩
  · cases h
  · injection h with h _ _; subst h; exact h2
theorem d_po {id m : Nat} (hm : Mem (.own (.ref id s m) s fl (xs.map f)) L) (h : OM (i < xs.length)) (hw : PT sh (f (nth xs i)).cells fo w) : LdP L sh (.ptr id s i fo) w := fun H hp => by
  simp only [stepR, evl, List.getD_cons_zero, rowAt_of (ref_at hp hm.h), Option.bind_eq_bind, Option.bind_some, List.getElem?_map, getI h.h, Option.map_some, hw.h]
end
/-- A part of one of a kind is set. -/
structure SF {α : Type} (f : α → V) (x y : V) (fo : Nat) (z : α) : Prop where
  h : f z = x.putAt y fo
theorem sf_1 {α : Type} {f : α → V} {x z : α} {y : V} (ha : RF (∀ y, (f y).isA = false)) (h : SE f y z) : SF f (f x) y 0 z := ⟨by
  have := ha.h x
  rw [h.h]
  generalize f x = v at *
  cases v <;> first | rfl | (simp [V.isA] at this)⟩
inductive StC (y : V) (n fo s : Nat) (fl : Bool) : Prop where
  | mk (h : (y.cells.length == n && (Nat.ble 1 n && (Nat.ble (fo + n) s && (y.cells.all V.sc && (!fl || y.cells.all V.flat1))))) = true) : StC y n fo s fl
section
variable {T : Nat → Option Fn} {A : Sl} {L : List HE} {ds1 : List (Nat × E)} {kf : Mask} {bs : List BS} {lv : Mask} {ds : List (Nat × E)} {z : List E} {K : List V → Sl → List HE → Prop}
variable {α : Type} [Inhabited α] {f : α → V} {xs : List α} {s i fo n : Nat} {fl : Bool}
theorem store_own {id m : Nat} {y : V} {w : α} {C : HE → List HE} {H : Heap} (hp : HP H L) (hat : Hole (.own (.ref id s m) s fl (xs.map f)) L C) (hi : i < xs.length) (hs : SF f (f (nth xs i)) y fo w) (hc : StC y n fo s fl) : ∃ H', stepX T (B.sto n) [.ptr id s i fo, y] H (.tup []) H' ∧ HP H' (C (.own (.ref id s m) s fl ((xs.set i w).map f))) := by
  have hr := ref_at hp (hat.at (.ob 0 (.row 0 false []))).mem
  have ho := hp.all _ (hat.at (.ob 0 (.row 0 false []))).mem
  obtain ⟨c⟩ := hc
  simp only [Bool.and_eq_true, beq_iff_eq, Nat.ble_eq] at c
  obtain ⟨c1, c2, c3, c4, c5⟩ := c
  have hl : m = xs.length := by
    rcases ho with ⟨h, _⟩ | ⟨id', h, _⟩
    · cases h
    · injection h with _ _ h; simpa using h
  have he : (xs.set i w).map f = (xs.map f).set i ((f (nth xs i)).putAt y fo) := by rw [List.map_set, hs.h]
  refine ⟨H.set id (.row s fl ((xs.map f).set i ((f (nth xs i)).putAt y fo))), ?_, ?_⟩
  · simp only [stepX, stepE, evl, List.getD_cons_zero, List.getD_cons_succ, storeAt, rowAt_of hr, Option.bind_eq_bind, Option.bind_some, List.getElem?_map, getI hi, Option.map_some]
    rw [if_pos ⟨c1, c2, c3, c4, c5⟩]; rfl
  · have hlt := (List.getElem?_eq_some_iff.1 hr).1
    refine hp.change (hat.at _) (fun j hj _ => ?_) ?_ (fun j hj => .inl hj) own_nd
    · simp only [HE.ids, Hd.ids, List.mem_singleton] at hj
      exact List.getElem?_set_ne (fun e => hj e.symm)
    · refine .inr ⟨id, by rw [hl]; simp, ?_⟩
      rw [List.getElem?_set_self hlt, he]
/-- A store into a slice of one's own. -/
theorem rs_so {id m : Nat} {a e : E} {y : V} {w : α} {ws : List V} {A' : Sl} {C : HE → List HE} (hd : EvL T A L (ds1.map (·.2)) ws) (ha : Ev T A L a (.ptr id s i fo)) (he : Ev T A L e y) (hA : keepM kf (putL (ds1.map (·.1)) ws A) = A')
    (hat : Hole (.own (.ref id s m) s fl (xs.map f)) L C) (hi : i < xs.length) (hs : SF f (f (nth xs i)) y fo w) (hc : StC y n fo s fl)
    (h : RS T false bs lv ds z A' (C (.own (.ref id s m) s fl ((xs.set i w).map f))) K) : RS T false (.eff ds1 kf none (B.sto n) [a, e] :: bs) lv ds z A L K :=
  rs_eff hd (ev_cons ha (ev_cons he ev_nil)) hA fun H hp => by
    obtain ⟨H', h1, h2⟩ := store_own (T := T) hp hat hi hs hc
    exact ⟨_, H', _, h1, h2, h⟩
theorem rs_si {k : IntKind} {g : Hd} {a b e : E} {y : V} {w : α} {ws : List V} {A' : Sl} {C : HE → List HE} (hd : EvL T A L (ds1.map (·.2)) ws) (ha : Ev T A L a g.v) (hb : Ev T A L b (.int k (i : Nat))) (he : Ev T A L e y) (hA : keepM kf (putL (ds1.map (·.1)) ws A) = A')
    (hat : Hole (.own g s fl (xs.map f)) L C) (hi : i < xs.length) (hs : SF f (f (nth xs i)) y 0 w) (hc : StC y n 0 s fl)
    (h : RS T false bs lv ds z A' (C (.own g s fl ((xs.set i w).map f))) K) : RS T false (.eff ds1 kf none (B.sto n) [B.ia s a b, e] :: bs) lv ds z A L K := fun H hp => by
  obtain ⟨id, rfl, h2⟩ := own_at (hp.all _ (hat.at (.ob 0 (.row 0 false []))).mem) (i := i) (by simpa using hi)
  refine rs_so hd (fun H hp => ?_) he hA hat hi hs hc h H hp
  simp only [evE, evEs, ha H hp, hb H hp]
  rw [List.length_map]
  exact (p_ir (k := k) ⟨hi⟩).h
end
/-! A string of bytes. -/
structure BO (vs : List V) (l : List UInt8) : Prop where
  h : bytesOf vs = some l
theorem bo_map : ∀ {l : List UInt8}, BO (l.map fun c => V.int .u8 (c.toNat : Nat)) l
  | [] => ⟨rfl⟩
  | c :: r => ⟨by
    have hc : c.toNat < 256 := UInt8.toNat_lt c
    simp only [List.map_cons, bytesOf]
    rw [if_pos (by omega), (bo_map (l := r)).h, Int.toNat_natCast]
    simp⟩
theorem bo_1 {n : Int} (h : OM (0 ≤ n ∧ n < 256)) : BO [.int .u8 n] [UInt8.ofNat n.toNat] := ⟨by simp only [bytesOf]; rw [if_pos h.h]; rfl⟩
theorem ev_b2 {T : Nat → Option Fn} {A : Sl} {L : List HE} {a : E} {x : V} {vs : List V} {l : List UInt8} (ha : Ev T A L a x) (hy : El L x vs) (hb : BO vs l) : Ev T A L (.r (.b2s (.t 0)) [a]) (.str l) := ev_r1 ha fun H hp => by
  simp only [stepR, evl, List.getD_cons_zero, hy H hp, Option.bind_some, hb.h, Option.map_some]
/-! Reckoning in any kind of number: what it is worth is told. -/
structure WR (k : IntKind) (m n : Int) : Prop where
  h : k.wrap m = n
section
variable {k : IntKind} {m n r : Int}
theorem p_addk (h : WR k (m + n) r) : SP [.int k m, .int k n] (.bin .add (.t 0) (.t 1)) (.int k r) := ⟨sp_bin rfl (by simp only [binI, h.h])⟩
theorem p_subk (h : WR k (m - n) r) : SP [.int k m, .int k n] (.bin .sub (.t 0) (.t 1)) (.int k r) := ⟨sp_bin rfl (by simp only [binI, h.h])⟩
theorem p_mulk (h : WR k (m * n) r) : SP [.int k m, .int k n] (.bin .mul (.t 0) (.t 1)) (.int k r) := ⟨sp_bin rfl (by simp only [binI, h.h])⟩
theorem p_quok (hn : RF ((n == 0) = false)) (h : WR k (m.tdiv n) r) : SP [.int k m, .int k n] (.bin .quo (.t 0) (.t 1)) (.int k r) := ⟨sp_bin rfl (by
  have : ¬ n = 0 := by simpa using hn.h
  simp only [binI, if_neg this, h.h])⟩
theorem p_negk (h : WR k (0 - n) r) : SP [.int k n] (.un .neg (.t 0)) (.int k r) := ⟨by
  simp only [stepP, evl, List.getD_cons_zero, stepUn, h.h]⟩
theorem p_convk {k' : IntKind} (h : WR k' m r) : SP [.int k m] (.conv k' (.t 0)) (.int k' r) := ⟨by
  simp only [stepP, evl, List.getD_cons_zero, h.h]⟩
end
end Go.AM

/- Closers, and the rules that use them. -/
set_option linter.unusedVariables false
set_option linter.unusedSimpArgs false
namespace Go.AM
/-! What a statement asks. -/
inductive AR (T : Nat → Option Fn) (A : Sl) (L : List HE) (ds : List (Nat × E)) (kf : Mask) (A' : Sl) : Prop where
  | mk {ws : List V} {A1 : Sl} (hd : EvL T A L (ds.map (·.2)) ws) (hl : Lay ds ws A A1) (hk : Keep kf A1 A') : AR T A L ds kf A'
theorem AR.get {T : Nat → Option Fn} {A : Sl} {L : List HE} {ds : List (Nat × E)} {kf : Mask} {A' : Sl} (h : AR T A L ds kf A') : ∃ ws, EvL T A L (ds.map (·.2)) ws ∧ keepM kf (putL (ds.map (·.1)) ws A) = A' := by
  cases h with
  | mk hd hl hk => exact ⟨_, hd, lay_keep hl hk⟩
/-- One, or more. -/
inductive On : List V → V → Prop where
  | one {v : V} : On [v] v
  | two {a b : V} {r : List V} : On (a :: b :: r) (.tup (a :: b :: r))
theorem On.eq {us : List V} {u : V} (h : On us u) : oneOr us = u := by cases h <;> rfl
inductive AI (T : Nat → Option Fn) (A : Sl) (L : List HE) (z : E) (t : Bool) (P : Prop) : Prop where
  | mk (hz : Ev T A L z (.bool t)) (hP : Rf t P) : AI T A L z t P
inductive AA (T : Nat → Option Fn) (A : Sl) (L : List HE) (s b : Nat) (fl : Bool) (xs ys : List V) (a e : E) (C : HE → List HE) : Prop where
  | mk {g : Hd} {y : V} (ha : Ev T A L a g.v) (hat : Hole (.own g s fl xs) L C) (he : Ev T A L e y) (hy : El L y ys) (hok : RF (ys.all (okEl s fl) = true)) (hl : OM (okLen (xs.length + ys.length) b)) : AA T A L s b fl xs ys a e C
inductive A1 (T : Nat → Option Fn) (A : Sl) (L : List HE) (s : Nat) (fl : Bool) (e : E) (y : V) : Prop where
  | mk (he : Ev T A L e y) (hy : RF (okEl s fl y = true)) : A1 T A L s fl e y
inductive AM (T : Nat → Option Fn) (A : Sl) (L : List HE) (s n : Nat) (fl : Bool) (zz : List V) (ps : List (Nat × Opd)) (es : List E) (ys : List V) : Prop where
  | mk {vs : List V} (he : EvL T A L es vs) (hy : RF (stepL (evl vs) 0 (.mks s fl zz n ps) = some (.row s fl ys, .ref 0 s 0 n))) (hn : RF (ys.length = n)) : AM T A L s n fl zz ps es ys
inductive AK (T : Nat → Option Fn) (A : Sl) (L : List HE) (s b' : Nat) (fl : Bool) (zz : V) (a b : E) (n : Nat) : Prop where
  | mk (ha : Ev T A L a (.int .i64 (n : Nat))) (hb : Ev T A L b (.int .i64 (n : Nat))) (hy : RF (okEl s fl zz = true)) (hl : OM (okLen n b')) : AK T A L s b' fl zz a b n
inductive AU (T : Nat → Option Fn) (A : Sl) (L : List HE) (kt : KT) (a b e : E) (id : Nat) (es : List (V × V)) (k x : V) (C : HE → List HE) : Prop where
  | mk (ha : Ev T A L a (.map id)) (hat : Hole (.ob id (.map kt es)) L C) (hb : Ev T A L b k) (he : Ev T A L e x) (hc : RF ((kt.conf k && x.flat1) = true)) : AU T A L kt a b e id es k x C
inductive StN (ys : List V) (i : Nat) (x y : V) (fo : Nat) (ys' : List V) : Prop where
  | mk (h : ys.set i (x.putAt y fo) = ys') : StN ys i x y fo ys'
inductive AT (T : Nat → Option Fn) (A : Sl) (L : List HE) (n : Nat) (a e : E) (id s : Nat) (fl : Bool) (ys' : List V) (C : HE → List HE) : Prop where
  | mk {i fo : Nat} {ys : List V} {x y : V} (ha : Ev T A L a (.ptr id s i fo)) (hat : Hole (.ob id (.row s fl ys)) L C) (he : Ev T A L e y) (hx : XI ys i x) (hc : StC y n fo s fl) (hy : StN ys i x y fo ys') : AT T A L n a e id s fl ys' C
/-- A store into a slice of one's own: by its name, or by its place. -/
inductive AO1 (T : Nat → Option Fn) (A : Sl) (L : List HE) {α : Type} [Inhabited α] (n : Nat) (a e : E) (g : Hd) (s : Nat) (fl : Bool) (f : α → V) (xs : List α) (i : Nat) (w : α) (C : HE → List HE) : Prop where
  | mk {id m fo : Nat} {y : V} (hg : RF (g = .ref id s m)) (ha : Ev T A L a (.ptr id s i fo)) (hat : Hole (.own (.ref id s m) s fl (xs.map f)) L C) (hi : OM (i < xs.length)) (he : Ev T A L e y) (hs : SF f (f (nth xs i)) y fo w) (hc : StC y n fo s fl) : AO1 T A L n a e g s fl f xs i w C
inductive AOI (T : Nat → Option Fn) (A : Sl) (L : List HE) {α : Type} [Inhabited α] (n : Nat) (a b e : E) (g : Hd) (s : Nat) (fl : Bool) (f : α → V) (xs : List α) (i : Nat) (w : α) (C : HE → List HE) : Prop where
  | mk {k : IntKind} {y : V} (ha : Ev T A L a g.v) (hb : Ev T A L b (.int k (i : Nat))) (hat : Hole (.own g s fl (xs.map f)) L C) (hi : OM (i < xs.length)) (he : Ev T A L e y) (hs : SF f (f (nth xs i)) y 0 w) (hc : StC y n 0 s fl) : AOI T A L n a b e g s fl f xs i w C
inductive AOZ (T : Nat → Option Fn) (A : Sl) (L : List HE) {α : Type} [Inhabited α] (n : Nat) (a b e : E) (g : Hd) (s : Nat) (fl : Bool) (f : α → V) (xs : List α) (i : Int) (w : α) (C : HE → List HE) : Prop where
  | mk {k : IntKind} {y : V} (ha : Ev T A L a g.v) (hb : Ev T A L b (.int k i)) (hat : Hole (.own g s fl (xs.map f)) L C) (hi : OM (0 ≤ i ∧ i < (xs.length : Int))) (he : Ev T A L e y) (hs : SF f (f (nth xs i.toNat)) y 0 w) (hc : StC y n 0 s fl) : AOZ T A L n a b e g s fl f xs i w C
theorem ao1 {T : Nat → Option Fn} {A : Sl} {L : List HE} {α : Type} {inst : Inhabited α} {n : Nat} {a e : E} {g : Hd} {s : Nat} {fl : Bool} {f : α → V} {xs : List α} {i : Nat} {w : α} {C : HE → List HE} {id m fo : Nat} {y : V} (hg : RF (g = .ref id s m)) (ha : Ev T A L a (.ptr id s i fo)) (hat : Hole (.own (.ref id s m) s fl (xs.map f)) L C) (hi : OM (i < xs.length)) (he : Ev T A L e y) (hs : SF f (f (nth xs i)) y fo w) (hc : StC y n fo s fl) : AO1 T A L n a e g s fl f xs i w C := .mk hg ha hat hi he hs hc
theorem aoi {T : Nat → Option Fn} {A : Sl} {L : List HE} {α : Type} {inst : Inhabited α} {n : Nat} {a b e : E} {g : Hd} {s : Nat} {fl : Bool} {f : α → V} {xs : List α} {i : Nat} {w : α} {C : HE → List HE} {k : IntKind} {y : V} (ha : Ev T A L a g.v) (hb : Ev T A L b (.int k (i : Nat))) (hat : Hole (.own g s fl (xs.map f)) L C) (hi : OM (i < xs.length)) (he : Ev T A L e y) (hs : SF f (f (nth xs i)) y 0 w) (hc : StC y n 0 s fl) : AOI T A L n a b e g s fl f xs i w C := .mk ha hb hat hi he hs hc
theorem aoz {T : Nat → Option Fn} {A : Sl} {L : List HE} {α : Type} {inst : Inhabited α} {n : Nat} {a b e : E} {g : Hd} {s : Nat} {fl : Bool} {f : α → V} {xs : List α} {i : Int} {w : α} {C : HE → List HE} {k : IntKind} {y : V} (ha : Ev T A L a g.v) (hb : Ev T A L b (.int k i)) (hat : Hole (.own g s fl (xs.map f)) L C) (hi : OM (0 ≤ i ∧ i < (xs.length : Int))) (he : Ev T A L e y) (hs : SF f (f (nth xs i.toNat)) y 0 w) (hc : StC y n 0 s fl) : AOZ T A L n a b e g s fl f xs i w C := .mk ha hb hat hi he hs hc
inductive AC (T : Nat → Option Fn) (A : Sl) (L : List HE) (f : Nat) (es : List E) (R : V → List HE → Prop) : Prop where
  | mk {vs : List V} (he : EvL T A L es vs) (hc : CE T f vs L R) : AC T A L f es R
theorem xm {P : Prop} (h : P := by
  repeat first
    | exact m_here
    | apply m_there) : P := h
theorem okEl_h (g : Hd) : okEl 1 false g.v = true := by simp [okEl, Hd.cells, Hd.sc]
theorem okEl_ne {α : Type} {f : α → V} (e : NE α) : okEl 1 false (e.v f) = true := by
  cases e with
  | dat => rfl
  | row g xs => exact okEl_h g
theorem stc_h {g : Hd} {fo s : Nat} (h : RF (Nat.ble (fo + 1) s = true)) : StC g.v 1 fo s false := ⟨by
  simp only [Hd.cells, List.length_cons, List.length_nil, List.all_cons, List.all_nil, Hd.sc, h.h]; rfl⟩
/-- Closes all of these. -/
theorem xx {P : Prop} (h : P := by
  repeat' first
    | exact ev_c
    | exact ev_nil
    | apply ev_cons
    | exact Gt.here
    | (apply Gt.there; focus exact rfl)
    | apply q_s
    | with_reducible assumption
    | exact RF.mk rfl
    | exact p_lt
    | exact p_eq
    | exact p_ne
    | exact p_not
    | apply p_inc
    | apply q_2
    | apply q_and
    | apply q_or
    | apply q_len
    | apply e_lfi
    | apply e_li
    | apply e_lp
    | apply ev_b2
    | exact bo_map
    | apply bo_1
    | apply q_look
    | apply q_1
    | apply ev_callx
    | apply ev_callw
    | exact CX.raw inferInstance
    | apply x_p
    | apply q_p
    | (apply OM.mk; omega)
    | (apply t_all; (focus exact RF.mk rfl); (focus exact RF.mk rfl))
    | exact ne_pt
    | exact PT.mk rfl
    | apply i_l
    | apply j_l
    | apply d_c
    | (apply d_p; (focus (repeat first | with_reducible assumption | (apply m_mv; focus with_reducible assumption) | exact m_here | apply m_there); done))
    | apply d_po
    | exact n_lm
    | apply n_om
    | exact n_l
    | exact n_0
    | apply n_o
    | apply n_row
    | exact Tl.here
    | apply Tl.there
    | exact p_sln
    | exact p_le
    | exact p_gt
    | exact p_ge
    | exact m_here
    | apply m_there
    | exact XI.mk rfl
    | apply i_o
    | apply j_o
    | apply i_z
    | apply j_z
    | apply i_oz
    | apply j_oz
    | apply p_ia
    | apply p_iz
    | apply p_ix
    | apply p_ixz
    | apply p_fa
    | exact p_fap
    | apply p_slo
    | apply p_shi
    | apply p_slh
    | apply p_clo
    | apply p_chi
    | apply p_iar
    | apply p_ir
    | apply p_irz
    | exact p_beq
    | exact p_bne
    | apply p_seq
    | apply p_sne
    | apply p_addn
    | apply p_sub
    | apply p_add
    | apply p_convk
    | apply p_addk
    | apply p_subk
    | apply p_mul
    | apply p_mulk
    | (apply p_quok; (focus exact RF.mk rfl))
    | apply p_negk
    | exact p_eqs
    | exact p_nes
    | apply p_adds
    | exact p_nkp
    | exact p_nkc
    | apply p_xt
    | apply p_mul
    | apply p_bl
    | apply p_build
    | exact SP.mk rfl
    | exact RF.mk (Hd.known _)
    | exact RF.mk (NE.known _)
    | exact ne_cells
    | exact RF.mk NE.isA
    | exact RF.mk fun _ => rfl
    | exact RF.mk fun h => Bool.noConfusion h
    | exact RF.mk (all_map (fun _ => rfl) _)
    | exact RF.mk (okEl_h _)
    | (apply RF.mk; simp only [stepL, evl, List.foldlM, List.getD_cons_zero, List.getD_cons_succ, okEl_h, List.replicate, List.set, List.all_cons, List.all_nil]; exact rfl)
    | exact LK.mk rfl
    | with_reducible exact @Rf.dec _ _
    | with_reducible apply Rf.not
    | with_reducible apply Rf.and
    | with_reducible apply Rf.or
    | with_reducible exact Rf.tt
    | with_reducible exact Rf.ff
    | exact Rf.any
    | apply AR.mk
    | apply AI.mk
    | apply AA.mk
    | apply A1.mk
    | apply AM.mk
    | apply AK.mk
    | apply AU.mk
    | apply AT.mk
    | apply AC.mk
    | apply ao1
    | apply aoi
    | apply aoz
    | exact SE.mk rfl
    | exact se_dat
    | apply sf_1
    | exact RF.mk (okEl_ne _)
    | exact Lay.nil
    | apply Lay.cons
    | exact Keep.nil
    | (apply Keep.yes; focus exact rfl)
    | (apply Keep.no; focus exact rfl)
    | exact Ins.same
    | exact Ins.nil
    | exact Ins.lo rfl rfl
    | (apply Ins.up; (focus exact rfl); (focus exact rfl))
    | exact S1.here
    | apply S1.there
    | exact SN.nil
    | apply SN.cons
    | exact O1.mk ⟨rfl, rfl, rfl⟩
    | exact O1.hd
    | exact Bl.nil
    | apply Bl.one
    | apply Bl.agg
    | apply SW.agg
    | apply SW.one
    | apply SW.cell
    | exact Hole.here
    | apply Hole.there
    | (apply h_mv; focus with_reducible assumption)
    | (apply m_mv; focus with_reducible assumption)
    | exact dps_nil
    | apply dps_cons
    | exact dp_d rfl
    | exact dp_nil
    | apply u_own
    | apply u_row
    | exact DE.flat ⟨fun _ => rfl⟩
    | apply de_rows
    | exact DE.data ⟨rfl⟩
    | apply DE.refs
    | apply FG.froz
    | apply FG.scal
    | apply FG.fFa
    | apply FG.fFt
    | apply FG.fF1
    | exact FrL.nil
    | exact FrA.nil
    | apply FrA.agg
    | apply FrL.own
    | apply FrA.own
    | apply FrL.null
    | apply FrA.null
    | apply FrL.flat
    | apply FrA.flat
    | apply dp_agg
    | apply dp_tup
    | exact el_lst
    | exact el_nil
    | apply e_o
    | exact On.one
    | exact On.two
    | exact rr_nil
    | apply s_t
    | apply s_c
    | exact StC.mk rfl
    | exact stc_h ⟨rfl⟩
    | (apply StC.mk; simp only [V.cells, Hd.cells, List.all_cons, List.all_nil, Hd.sc, Hd.flat1]; exact rfl)
    | (apply StN.mk; apply SW.eq; focus exact xx)
    | exact StN.mk rfl
    | apply c_i
    | infer_instance
    | intro _
    | (apply OM.mk; simp only [okLen, List.length_map, List.length_append, List.length_cons, List.length_nil, List.length_replicate]; omega)
    | exact OM.mk trivial
    | (apply OM.mk; assumption)
    | assumption
  first | done | fail) : P := h
theorem sbc {P : Prop} (h : P := by
  repeat first
    | refine Sb.of ?_
    | exact List.Sublist.refl _
    | exact List.nil_sublist _
    | exact List.Sublist.slnil
    | apply List.Sublist.cons_cons
    | apply List.Sublist.cons) : P := h
section
variable {T : Nat → Option Fn} {fx : FX} {S : Bool} {A : Sl} {L : List HE} {Q : X → Sl → List HE → Prop} {r : List BC}
/-- A region that changes no memory. -/
theorem wr {lv : Mask} {ds : List (Nat × E)} {A' : Sl} (h1 : AR T A L ds lv A') (h : WH T fx S r A' L Q) : WH T fx S (.reg [] lv ds :: r) A L Q := by
  obtain ⟨ws, hd, hA⟩ := h1.get
  exact wh_reg (rs_nil ev_nil hd hA h)
theorem wi {lv : Mask} {ds : List (Nat × E)} {z : E} {a b : BC} {t : Bool} {P : Prop} {A' : Sl} (hz : AI T A L z t P) (hd : AR T A L ds lv A') (h1 : P → WH T fx S (a :: r) A' L Q) (h2 : ¬ P → WH T fx S (b :: r) A' L Q) : WH T fx S (.ife [] lv ds z a b :: r) A L Q := by
  obtain ⟨ws, hd, hA⟩ := hd.get
  cases hz with
  | mk hz hP => exact wh_ife (rs_if hz hd hA hP.eq h1 h2)
section
variable {ds1 : List (Nat × E)} {kf : Mask} {d : Option Nat} {bs : List BS} {lv : Mask} {ds : List (Nat × E)} {z : List E} {K : List V → Sl → List HE → Prop} {A' : Sl}
theorem ra {s b : Nat} {fl : Bool} {xs ys : List V} {a e : E} {C : HE → List HE} (hr : AR T A L ds1 kf A') (h1 : AA T A L s b fl xs ys a e C) (h : ∀ g' : Hd, RS T false bs lv ds z (insD d g'.v A') (C (.own g' s fl (xs ++ ys))) K) : RS T false (.eff ds1 kf d (B.apd s fl b) [a, e] :: bs) lv ds z A L K := by
  obtain ⟨ws, hd, hA⟩ := hr.get
  cases h1 with
  | mk ha hat he hy hok hl => exact rs_app hd ha he hy hA (fun g' => hat.at _) hok.h hl.h h
theorem r1 {s : Nat} {fl : Bool} {zz : List V} {e : E} {y : V} (hr : AR T A L ds1 kf A') (h1 : A1 T A L s fl e y) (h : ∀ g : Hd, RS T false bs lv ds z (insD d g.v A') (.own g s fl [y] :: L) K) : RS T false (.eff ds1 kf d (B.one s fl zz) [e] :: bs) lv ds z A L K := by
  obtain ⟨ws, hd, hA⟩ := hr.get
  cases h1 with
  | mk he hy => exact rs_one hd he hA hy.h h
theorem rm {s n : Nat} {fl : Bool} {zz : List V} {ps : List (Nat × Opd)} {es : List E} {ys : List V} (hr : AR T A L ds1 kf A') (h1 : AM T A L s n fl zz ps es ys) (h : ∀ g : Hd, RS T false bs lv ds z (insD d g.v A') (.own g s fl ys :: L) K) : RS T false (.eff ds1 kf d (.l (.mks s fl zz n ps)) es :: bs) lv ds z A L K := by
  obtain ⟨ws, hd, hA⟩ := hr.get
  cases h1 with
  | mk he hy hn => exact rs_mks hd he hA hy.h hn.h h
theorem rk {s by' : Nat} {fl : Bool} {zz : V} {a b : E} {n : Nat} (hr : AR T A L ds1 kf A') (h1 : AK T A L s by' fl zz a b n) (h : ∀ g : Hd, RS T false bs lv ds z (insD d g.v A') (.own g s fl (List.replicate n zz) :: L) K) : RS T false (.eff ds1 kf d (.l (.make s fl zz by' (.t 0) (.t 1))) [a, b] :: bs) lv ds z A L K := by
  obtain ⟨ws, hd, hA⟩ := hr.get
  cases h1 with
  | mk ha hb hy hl => exact rs_make hd ha hb hA hy.h hl.h h
theorem rl {s : Nat} {fl : Bool} {y : V} (hr : AR T A L ds1 kf A') (hy : RF (okEl s fl y = true)) (h : ∀ id, RS T false bs lv ds z (insD d (.ptr id s 0 0) A') (.ob id (.row s fl [y]) :: L) K) : RS T false (.eff ds1 kf d (B.alo s fl y) [] :: bs) lv ds z A L K := by
  obtain ⟨ws, hd, hA⟩ := hr.get
  exact rs_alloc hd hA hy.h h
theorem rb {s : Nat} {fl : Bool} {e : E} {y : V} (hr : AR T A L ds1 kf A') (h1 : A1 T A L s fl e y) (h : ∀ id, RS T false bs lv ds z (insD d (.ptr id s 0 0) A') (.ob id (.row s fl [y]) :: L) K) : RS T false (.eff ds1 kf d (B.box s fl) [e] :: bs) lv ds z A L K := by
  obtain ⟨ws, hd, hA⟩ := hr.get
  cases h1 with
  | mk he hy => exact rs_box hd he hA hy.h h
theorem rmm {kt : KT} (hr : AR T A L ds1 kf A') (h : ∀ id, RS T false bs lv ds z (insD d (.map id) A') (.ob id (.map kt []) :: L) K) : RS T false (.eff ds1 kf d (.l (.mkmap kt)) [] :: bs) lv ds z A L K := by
  obtain ⟨ws, hd, hA⟩ := hr.get
  exact rs_mkmap hd hA h
theorem ru {kt : KT} {id : Nat} {es : List (V × V)} {a b e : E} {k x : V} {C : HE → List HE} (hr : AR T A L ds1 kf A') (h1 : AU T A L kt a b e id es k x C) (h : RS T false bs lv ds z A' (C (.ob id (.map kt (mput es k x)))) K) : RS T false (.eff ds1 kf none (.e (.mup kt (.t 0) (.t 1) (.t 2))) [a, b, e] :: bs) lv ds z A L K := by
  obtain ⟨ws, hd, hA⟩ := hr.get
  cases h1 with
  | mk ha hat hb he hc => exact rs_mup hd ha hb he hA (hat.at _) hc.h h
/-- A store; what lies there behind it is told in its own words. -/
theorem rt {n id s : Nat} {fl : Bool} {ys' : List V} {a e : E} {C : HE → List HE} (hr : AR T A L ds1 kf A') (h1 : AT T A L n a e id s fl ys' C) (h : RS T false bs lv ds z A' (C (.ob id (.row s fl ys'))) K) : RS T false (.eff ds1 kf none (B.sto n) [a, e] :: bs) lv ds z A L K := by
  obtain ⟨ws, hd, hA⟩ := hr.get
  cases h1 with
  | mk ha hat he hx hc hy =>
    cases hc with
    | mk hc =>
      cases hy with
      | mk hy => exact rs_store hd ha he hA (by rw [hy]; exact hat.at _) hx.h hc h
theorem rso {α : Type} {inst : Inhabited α} {n : Nat} {a e : E} {g : Hd} {s : Nat} {fl : Bool} {f : α → V} {xs : List α} {i : Nat} {w : α} {C : HE → List HE} (hr : AR T A L ds1 kf A') (h1 : AO1 T A L n a e g s fl f xs i w C) (h : RS T false bs lv ds z A' (C (.own g s fl ((xs.set i w).map f))) K) : RS T false (.eff ds1 kf none (B.sto n) [a, e] :: bs) lv ds z A L K := by
  obtain ⟨ws, hd, hA⟩ := hr.get
  cases h1 with
  | mk hg ha hat hi he hs hc => obtain ⟨hg⟩ := hg; subst hg; exact rs_so hd ha he hA hat hi.h hs hc h
theorem rsi {α : Type} {inst : Inhabited α} {n : Nat} {a b e : E} {g : Hd} {s : Nat} {fl : Bool} {f : α → V} {xs : List α} {i : Nat} {w : α} {C : HE → List HE} (hr : AR T A L ds1 kf A') (h1 : AOI T A L n a b e g s fl f xs i w C) (h : RS T false bs lv ds z A' (C (.own g s fl ((xs.set i w).map f))) K) : RS T false (.eff ds1 kf none (B.sto n) [B.ia s a b, e] :: bs) lv ds z A L K := by
  obtain ⟨ws, hd, hA⟩ := hr.get
  cases h1 with
  | mk ha hb hat hi he hs hc => exact rs_si hd ha hb he hA hat hi.h hs hc h
theorem rsz {α : Type} {inst : Inhabited α} {n : Nat} {a b e : E} {g : Hd} {s : Nat} {fl : Bool} {f : α → V} {xs : List α} {i : Int} {w : α} {C : HE → List HE} (hr : AR T A L ds1 kf A') (h1 : AOZ T A L n a b e g s fl f xs i w C) (h : RS T false bs lv ds z A' (C (.own g s fl ((xs.set i.toNat w).map f))) K) : RS T false (.eff ds1 kf none (B.sto n) [B.ia s a b, e] :: bs) lv ds z A L K := by
  obtain ⟨ws, hd, hA⟩ := hr.get
  cases h1 with
  | mk ha hb hat hi he hs hc =>
    obtain ⟨j, rfl⟩ : ∃ j : Nat, i = (j : Nat) := ⟨i.toNat, by have := hi.h; omega⟩
    have hj := hi.h
    exact rs_si hd ha hb he hA hat (by omega) hs hc h
theorem rc {f : Nat} {es : List E} {R : V → List HE → Prop} (hr : AR T A L ds1 kf A') (h1 : AC T A L f es R) (h : ∀ v L', R v L' → RS T false bs lv ds z (insD d v A') L' K) : RS T false (.eff ds1 kf d (.call f) es :: bs) lv ds z A L K := by
  obtain ⟨ws, hd, hA⟩ := hr.get
  cases h1 with
  | mk he hc => exact rs_call hd he hA hc h
end
theorem rk' {e : E} {bs : List BS} {lv : Mask} {ds : List (Nat × E)} {z : List E} {K : List V → Sl → List HE → Prop} {v : V} (hπ : Ev T A L TT (.bool true)) (he : Ev T A L e v) (h : RS T S bs lv ds z A L K) : RS T S (.chk TT e :: bs) lv ds z A L K := rs_chk hπ (fun _ => he) h
/-- The end of a region. -/
theorem re {lv : Mask} {ds : List (Nat × E)} {A' : Sl} (h1 : AR T A L ds lv A') (h : WH T fx S r A' L Q) : RS T S [] lv ds [] A L fun _ A' L' => WH T fx S r A' L' Q := by
  obtain ⟨ws, hd, hA⟩ := h1.get
  exact rs_nil ev_nil hd hA h
theorem rf {lv : Mask} {ds : List (Nat × E)} {z : E} {t : Bool} {P : Prop} {X Y : Sl → List HE → Prop} {A' : Sl} (hz : AI T A L z t P) (hd : AR T A L ds lv A') (h1 : P → X A' L) (h2 : ¬ P → Y A' L) : RS T S [] lv ds [z] A L fun zs A' L' => ∃ t, zs = [.bool t] ∧ (t = true → X A' L') ∧ (t = false → Y A' L') := by
  obtain ⟨ws, hd, hA⟩ := hd.get
  cases hz with
  | mk hz hP => exact rs_if hz hd hA hP.eq h1 h2
/-- A slice that is nil is one's own. -/
theorem wn (s : Nat) (fl : Bool) (h : WH T fx S r A (.own .nil s fl [] :: L) Q) : WH T fx S r A L Q := fun H hp =>
  h H (hp.more (fun _ _ => rfl) (.inl ⟨rfl, rfl⟩) (by simp [HE.ids, Hd.ids]) own_nd)
/-! The end of a function. -/
theorem fz {rm : RM} {res : List Res} {us : List V} {u v v' : V} {x : X} (hv : v' = v) (hx : x = .norm ∨ x = .ret := by first | exact .inr rfl | exact .inl rfl) (hr : RsR A L res us := by exact xx) (hu : On us u := by exact xx) (hd : FG L rm u v' := by exact xx) : (x = .norm ∨ x = .ret) ∧ ∃ us, RsR A L res us ∧ Fin rm (oneOr us) L v :=
  ⟨hx, us, hr, by rw [hu.eq, ← hv]; exact hd.get⟩
end
/-- Arguments in their slots. -/
inductive ArgL : Nat → List V → Sl → Prop where
  | nil {i : Nat} : ArgL i [] []
  | cons {i : Nat} {v : V} {r : List V} {A : Sl} (h : ArgL (Nat.succ i) r A) : ArgL i (v :: r) ((i, v) :: A)
theorem ArgL.eq {i : Nat} {vs : List V} {A : Sl} (h : ArgL i vs A) : argS i vs = A := by
  induction h with
  | nil => rfl
  | cons _ ih => simp only [argS, ih]
theorem arc {P : Prop} (h : P := by
  repeat first
    | exact ArgL.nil
    | apply ArgL.cons) : P := h
theorem pc {P : Program} {Le : List Nat} {t : List (Nat × Row)} (hT : AllR P Le t) {f : Nat} {cv : Bool} {np : Nat} {rm : RM} {res : List Res} {body : BC} {A : Sl} {ds : List V} {fr : Bool} {v : V}
    (hw : WH (tblOf P t) (fxE Le cv) false [body] A [] fun x A L => (x = .norm ∨ x = .ret) ∧ ∃ us, RsR A L res us ∧ Fin rm (oneOr us) L v)
    (hl : lookR t f = some (.fn cv ⟨np, true, rm, res, body⟩) := by rfl) (hn : ds.length = np := by rfl) (hfr : ((decide (rm = .froz) || decide (rm = .own)) && !fr) = false := by rfl) (hA : ArgL 0 ds A := by exact arc) : PC (tblOf P t) f ds fr v :=
  pc_of hT hl hn hfr (hA.eq ▸ hw)
theorem rw' {P : Program} {Le : List Nat} {t : List (Nat × Row)} (hT : AllR P Le t) {f : Nat} {cv : Bool} {np : Nat} {rm : RM} {res : List Res} {body : BC} {A : Sl} {xs : List V} {L : List HE} {v : V}
    (hw : WH (tblOf P t) (fxE Le cv) true [body] A L fun x A L => (x = .norm ∨ x = .ret) ∧ ∃ us, RsR A L res us ∧ oneOr us = v)
    (hl : lookR t f = some (.fn cv ⟨np, false, rm, res, body⟩) := by rfl) (hn : xs.length = np := by rfl) (hA : ArgL 0 xs A := by exact arc) : RC (tblOf P t) L f xs v :=
  rc_of hT hl hn (hA.eq ▸ hw)
theorem fw {A : Sl} {L : List HE} {res : List Res} {us : List V} {u v : V} {x : X} (hv : u = v) (hx : x = .norm ∨ x = .ret := by first | exact .inr rfl | exact .inl rfl) (hr : RsR A L res us := by exact xx) (hu : On us u := by exact xx) : (x = .norm ∨ x = .ret) ∧ ∃ us, RsR A L res us ∧ oneOr us = v :=
  ⟨hx, us, hr, by rw [hu.eq, hv]⟩
end Go.AM

/- Regions whose order is left open, with effects among them: step by step. -/
set_option linter.unusedVariables false
set_option linter.unusedSimpArgs false
namespace Go.AM
/-- What must read the same behind the next effects. -/
structure Pd where
  q : ROp
  vs : List V
  w : V
  k : Nat
structure PdR (p : Pd) (x : Pend) : Prop where
  k : x.2 = p.k
  h : ∀ H, stepR (evl p.vs) H p.q = some p.w → x.1 H = true
inductive PdL : List Pd → List Pend → Prop where
  | nil : PdL [] []
  | cons {p : Pd} {x : Pend} {ps : List Pd} {xs : List Pend} (h : PdR p x) (hs : PdL ps xs) : PdL (p :: ps) (x :: xs)
def lowP (ps : List Pd) : List Pd := ps.map fun p => ⟨p.q, p.vs, p.w, p.k - 1⟩
theorem PdL.lower {ps : List Pd} {xs : List Pend} (h : PdL ps xs) : PdL (lowP ps) (lower xs) := by
  induction h with
  | nil => exact .nil
  | cons h _ ih => exact .cons ⟨by simp only [h.k], h.h⟩ ih
inductive PO (L : List HE) : List Pd → Prop where
  | nil : PO L []
  | zero {q : ROp} {vs : List V} {w : V} {ps : List Pd} (h : PO L ps) : PO L (⟨q, vs, w, 0⟩ :: ps)
  | ld {sh : Sh} {x w : V} {k : Nat} {ps : List Pd} (hl : LdP L sh x w) (h : PO L ps) : PO L (⟨.load sh (.t 0), [x], w, k⟩ :: ps)
theorem PO.again {L : List HE} {ps : List Pd} (h : PO L ps) {H : Heap} (hp : HP H L) : ∀ {xs : List Pend}, PdL ps xs → again xs H = true := by
  induction h with
  | nil => intro xs hx; cases hx; rfl
  | zero _ ih =>
    intro xs hx
    cases hx with
    | cons h hs =>
      have := ih hs
      simp only [Go.AM.again, List.all_cons, Bool.and_eq_true, Bool.or_eq_true] at this ⊢
      exact ⟨.inl (by simp [h.k]), this⟩
  | ld hl _ ih =>
    intro xs hx
    cases hx with
    | cons h hs =>
      have := ih hs
      simp only [Go.AM.again, List.all_cons, Bool.and_eq_true, Bool.or_eq_true] at this ⊢
      exact ⟨.inr (h.h H (hl H hp)), this⟩
structure DR (T : Nat → Option Fn) (ops : List AO) (PS : List Pd) (A : Sl) (L : List HE) (K : Sl → List HE → Prop) : Prop where
  run : ∀ H, HP H L → ∀ ps sl, PdL PS ps → Low A sl → okOps sl.length ops = true → ∃ n sl' H', (∀ m, n ≤ m → runDraw (callN T m) ops ps (sl, H) = some (sl', H')) ∧ sl'.length = sl.length ∧ ∃ A' L', Low A' sl' ∧ HP H' L' ∧ K A' L'
def allM : Nat := 115792089237316195423570985008687907853269984665640564039457584007913129639935
section
variable {T : Nat → Option Fn} {A A' : Sl} {L : List HE} {o : AO} {r : List AO} {PS : List Pd} {K : Sl → List HE → Prop}
theorem low_ins {sl : List V} (h : Low A sl) {i : Nat} {v : V} (hi : i < sl.length) : Low (ins i v A) (sl.set i v) := fun j => by
  rw [get_ins, getD_set hi]
  split
  · exact .inr rfl
  · exact h j
theorem low_insD {sl : List V} (h : Low A sl) {d : Option Nat} {v : V} (hd : dstLt sl.length d = true) : Low (insD d v A) (putD sl d v) := by
  cases d with
  | none => exact h
  | some i => exact low_ins h (by simpa [dstLt] using hd)
theorem dr_nil (h : K A L) : DR T [] PS A L K := ⟨fun H hp ps sl _ hl _ => ⟨0, sl, H, fun _ _ => rfl, rfl, A, L, hl, hp, h⟩⟩
theorem dr_go {sl sl1 : List V} {H H1 : Heap} {ps ps1 : List Pend} {PS1 : List Pd} {L1 : List HE} {n1 : Nat} (hrun : ∀ m, n1 ≤ m → runDraw (callN T m) (o :: r) ps (sl, H) = runDraw (callN T m) r ps1 (sl1, H1)) (hln : sl1.length = sl.length) (hps : PdL PS1 ps1) (hlow : Low A' sl1) (hp : HP H1 L1) (ok : okOps sl.length r = true) (h : DR T r PS1 A' L1 K) :
    ∃ n sl' H', (∀ m, n ≤ m → runDraw (callN T m) (o :: r) ps (sl, H) = some (sl', H')) ∧ sl'.length = sl.length ∧ ∃ A' L', Low A' sl' ∧ HP H' L' ∧ K A' L' := by
  obtain ⟨n2, sl', H', k1, k2, k3⟩   := h.run H1 hp ps1 sl1 hps hlow (by rw [hln]; exact ok)
  exact ⟨max n1 n2, sl', H', fun m hm => by rw [hrun m (by omega)]; exact k1 m (by omega), by rw [k2, hln], k3⟩
/-- What changes nothing. -/
theorem plain_run {sl : List V} {H : Heap} {e : E} {v : V} (hx : exOp [] TT o.op = some e) (hg : o.guard = none) (he : evE T A H e = some v) (hl : Low A sl) (hd : dstLt sl.length o.dst = true) : ∃ n, (∀ m, n ≤ m → stepAO (callN T m) o (sl, H) = some (putD sl o.dst v, H)) := by
  have hx' : exOp [] (gP [] o.guard) o.op = some e := by rw [hg]; exact hx
  obtain ⟨n, sl', h1, h2, h3⟩ := step_plain (fx := fun _ => false) (inv_low (T := T) (H := H) hl) hd hx' ⟨true, by rw [hg]; rfl, fun _ => ⟨v, he⟩⟩
  refine ⟨n, fun m hm => ?_⟩
  rw [h1 m hm]
  have h4 := h1 m hm
  unfold stepAO at h4
  rw [hg] at h4
  simp only [wants, Option.map_eq_some_iff] at h4
  obtain ⟨⟨v', H'⟩, h5, h6⟩ := h4
  simp only [Prod.mk.injEq] at h6
  obtain ⟨rfl, rfl⟩ := h6
  cases hdst : o.dst with
  | none => rfl
  | some d =>
    rw [hdst] at h3
    obtain ⟨c, k1, k2, _⟩ := h3.ent d e (gP [] o.guard) (by simp [pushS, lk])
    rw [hg] at k1
    simp only [gP, evE] at k1
    injection k1 with k1
    injection k1 with k1
    subst k1
    have k3 := k2 rfl
    rw [he] at k3
    injection k3 with k3
    have hlt : d < sl.length := by rw [hdst] at hd; simpa [dstLt] using hd
    simp only [putD] at k3 ⊢
    rw [getD_set hlt, if_pos rfl] at k3
    rw [k3]
def plainRe (o : AO) : Bool := o.re == 0 || match o.op with | .p _ => true | _ => false
inductive DV (T : Nat → Option Fn) (A : Sl) (L : List HE) (o : AO) (v : V) (A' : Sl) : Prop where
  | mk {e : E} (hx : RF (exOp [] TT o.op = some e)) (hg : RF (o.guard = none)) (hE : RF (isE o.op = false)) (hr : RF (plainRe o = true)) (he : Ev T A L e v) (hA : InD o.dst v A A') : DV T A L o v A'
theorem dr_v {v : V} (h1 : DV T A L o v A') (h : DR T r PS A' L K) : DR T (o :: r) PS A L K := by
  refine ⟨fun H hp ps sl hps hlow ok => ?_⟩
  cases h1 with
  | mk hx hg hE hr he hA =>
    simp only [okOps, List.all_cons, Bool.and_eq_true] at ok
    obtain ⟨n, hn⟩ := plain_run hx.h hg.h (he H hp) hlow ok.1
    have hnp : newPend o (sl, H) (putD sl o.dst v, H) = [] := by
      unfold newPend
      have := hr.h
      simp only [plainRe, Bool.or_eq_true, beq_iff_eq] at this
      rcases this with h | h
      · rw [if_pos h]
      · split
        · rfl
        · split
          · rename_i ho _; rw [ho] at h; cases h
          · rename_i ho _; rw [ho] at h; cases h
          · rfl
    have := hA.eq
    subst this
    exact dr_go (n1 := n) (ps1 := ps) (PS1 := PS) (fun m hm => by
      simp only [runDraw, hn m hm, Option.bind_some, hE.h, Bool.false_eq_true, if_false, hnp, List.nil_append]) (putD_len _ _ _) hps (low_insD hlow ok.1) hp ok.2 h
/-- A call that changes nothing, where nothing must read the same. -/
inductive DVE (T : Nat → Option Fn) (A : Sl) (L : List HE) (o : AO) (v : V) (A' : Sl) : Prop where
  | mk {e : E} (hx : RF (exOp [] TT o.op = some e)) (hg : RF (o.guard = none)) (hE : RF (isE o.op = true)) (he : Ev T A L e v) (hA : InD o.dst v A A') : DVE T A L o v A'
theorem dr_ve {v : V} (h1 : DVE T A L o v A') (h : DR T r [] A' L K) : DR T (o :: r) [] A L K := by
  refine ⟨fun H hp ps sl hps hlow ok => ?_⟩
  cases hps
  cases h1 with
  | mk hx hg hE he hA =>
    simp only [okOps, List.all_cons, Bool.and_eq_true] at ok
    obtain ⟨n, hn⟩ := plain_run hx.h hg.h (he H hp) hlow ok.1
    have := hA.eq
    subst this
    exact dr_go (n1 := n) (ps1 := []) (PS1 := []) (fun m hm => by
      simp only [runDraw, hn m hm, Option.bind_some, hE.h, if_true, again, List.all_nil, lower, List.map_nil]) (putD_len _ _ _) .nil (low_insD hlow ok.1) hp ok.2 h
inductive DL (T : Nat → Option Fn) (A : Sl) (L : List HE) (sh : Sh) (x : Opd) (d : Option Nat) (y v : V) (A' : Sl) : Prop where
  | mk {a : E} (hx : RF (opdE [] TT x = some a)) (ha : Ev T A L a y) (hl : LdP L sh y v) (hA : InD d v A A') : DL T A L sh x d y v A'
/-- A load that must read the same later. -/
theorem dr_r {sh : Sh} {x : Opd} {d : Option Nat} {k : Nat} {y v : V} (h1 : DL T A L sh x d y v A') (h : DR T r (⟨.load sh (.t 0), [y], v, Nat.succ k⟩ :: PS) A' L K) : DR T (⟨d, .r (.load sh x), none, Nat.succ k⟩ :: r) PS A L K := by
  refine ⟨fun H hp ps sl hps hlow ok => ?_⟩
  cases h1 with
  | @mk a hx ha hl hA =>
    simp only [okOps, List.all_cons, Bool.and_eq_true] at ok
    have hx' : exOp [] TT (.r (.load sh x)) = some (.r (.load sh (.t 0)) [a]) := by
      simp only [exOp, ROp.opds, opdEs, hx.h, Option.map_some, ROp.canon]
    obtain ⟨n, hn⟩ := plain_run (o := ⟨d, .r (.load sh x), none, Nat.succ k⟩) hx' rfl (e_lp ha hl H hp) hlow ok.1
    have hy : ev sl x = y := opd_val (inv_low (T := T) (H := H) hlow) evE_TT hx.h (ha H hp)
    have hsr : ∀ H, stepR (ev sl) H (.load sh x) = stepR (evl [y]) H (.load sh (.t 0)) := fun H => by
      have := stepR_canon (ev sl) H (.load sh x)
      rw [← this]
      simp only [ROp.opds, List.map_cons, List.map_nil, hy, ROp.canon]
    have := hA.eq
    subst this
    refine dr_go (n1 := n) (ps1 := (fun H' => decide (stepR (ev sl) H' (.load sh x) = stepR (ev sl) H (.load sh x)), Nat.succ k) :: ps) (PS1 := ⟨.load sh (.t 0), [y], v, Nat.succ k⟩ :: PS) (fun m hm => ?_) (putD_len _ _ _) (.cons ⟨rfl, fun H' e => ?_⟩ hps) (low_insD hlow ok.1) hp ok.2 h
    · simp only [runDraw, hn m hm, Option.bind_some, isE, Bool.false_eq_true, if_false, newPend, Nat.succ_ne_zero, wants, List.singleton_append]
    · simp only [decide_eq_true_eq]
      rw [hsr, hsr, e, hl H hp]
/-- What changes memory. -/
theorem eff_run {sl : List V} {H : Heap} {x : XOp} {xs : List Opd} {es : List E} {K1 : Sl → List HE → Prop} (hx : XOp.of o.op = some (x, xs)) (ho : opdEs [] TT xs = some es) (hg : o.guard = none) (hl : Low A sl) (hd : dstLt sl.length o.dst = true) (hp : HP H L)
    (h : RS T false [.eff [] allM o.dst x es] allM [] [] A L fun _ A' L' => K1 A' L') : ∃ n v H' A' L', (∀ m, n ≤ m → stepAO (callN T m) o (sl, H) = some (putD sl o.dst v, H')) ∧ Low A' (putD sl o.dst v) ∧ HP H' L' ∧ K1 A' L' := by
  obtain ⟨ws, vs, v, H', h1, h2, h3, zs, ws', h4, h5, _, L', h6, h7⟩ := h H hp
  obtain ⟨n, hn⟩ := stepX_run (inv_low (T := T) (H := H) hl) hx ho h2 h3
  simp only [evEs, List.map_nil, Option.some.injEq] at h1 h5
  subst h1; subst h5
  refine ⟨n, v, H', _, L', fun m hm => ?_, ?_, h6, h7⟩
  · unfold stepAO
    rw [hg]
    simp only [wants, hn m hm, Option.map_some]
  · exact keepM_low (low_insD (keepM_low hl _) hd) _
theorem dr_e {x : XOp} {xs : List Opd} {es : List E} (hx : RF (XOp.of o.op = some (x, xs))) (ho : RF (opdEs [] TT xs = some es)) (hg : RF (o.guard = none)) (hE : RF (isE o.op = true))
    (h : RS T false [.eff [] allM o.dst x es] allM [] [] A L fun _ A' L' => PO L' PS ∧ DR T r (lowP PS) A' L' K) : DR T (o :: r) PS A L K := by
  refine ⟨fun H hp ps sl hps hlow ok => ?_⟩
  simp only [okOps, List.all_cons, Bool.and_eq_true] at ok
  obtain ⟨n, v, H', A', L', h1, h2, h3, h4, h5⟩ := eff_run hx.h ho.h hg.h hlow ok.1 hp h
  exact dr_go (n1 := n) (ps1 := lower ps) (PS1 := lowP PS) (fun m hm => by
    simp only [runDraw, h1 m hm, Option.bind_some, hE.h, if_true, h4.again h3 hps]) (putD_len _ _ _) hps.lower h2 h3 ok.2 h5
theorem dr_l {x : XOp} {xs : List Opd} {es : List E} (hx : RF (XOp.of o.op = some (x, xs))) (ho : RF (opdEs [] TT xs = some es)) (hg : RF (o.guard = none)) (hE : RF (isE o.op = false)) (hr : RF (o.re = 0))
    (h : RS T false [.eff [] allM o.dst x es] allM [] [] A L fun _ A' L' => DR T r PS A' L' K) : DR T (o :: r) PS A L K := by
  refine ⟨fun H hp ps sl hps hlow ok => ?_⟩
  simp only [okOps, List.all_cons, Bool.and_eq_true] at ok
  obtain ⟨n, v, H', A', L', h1, h2, h3, h5⟩ := eff_run hx.h ho.h hg.h hlow ok.1 hp h
  exact dr_go (n1 := n) (ps1 := ps) (PS1 := PS) (fun m hm => by
    have hnp : newPend o (sl, H) (putD sl o.dst v, H') = [] := by unfold newPend; rw [if_pos hr.h]
    simp only [runDraw, h1 m hm, Option.bind_some, hE.h, Bool.false_eq_true, if_false, hnp, List.nil_append]) (putD_len _ _ _) hps h2 h3 ok.2 h5
/-- Behind what changes memory. -/
theorem rd_e (hr : AR T A L [] allM A') (hp : PO L PS) (h : DR T r (lowP PS) A' L K) : RS T false [] allM [] [] A L fun _ A' L' => PO L' PS ∧ DR T r (lowP PS) A' L' K := by
  obtain ⟨ws, hd, hA⟩ := hr.get
  exact rs_nil ev_nil hd hA ⟨hp, h⟩
theorem rd_l (hr : AR T A L [] allM A') (h : DR T r PS A' L K) : RS T false [] allM [] [] A L fun _ A' L' => DR T r PS A' L' K := by
  obtain ⟨ws, hd, hA⟩ := hr.get
  exact rs_nil ev_nil hd hA h
variable {fx : FX} {Q : X → Sl → List HE → Prop} {rr : List BC} {lv : Mask}
/-! Guards. -/
theorem low_get {A : Sl} {sl : List V} (h : Low A sl) {i : Nat} {v : V} (hg : Gt A i v) (hk : v.known = true) : sl.getD i .undef = v := by
  have h1 := hg.get
  rcases h i with h2 | h2
  · rw [h1] at h2; rw [h2] at hk; cases hk
  · rw [← h1, h2]
/-- A guard that lets through. -/
theorem dr_gt {d : Option Nat} {op : AOp} {g re : Nat} {b : Bool} (hg : Gt A g (.bool b)) (h : DR T (⟨d, op, none, re⟩ :: r) PS A L K) : DR T (⟨d, op, some (g, b), re⟩ :: r) PS A L K := by
  refine ⟨fun H hp ps sl hps hlow ok => ?_⟩
  obtain ⟨n, sl', H', h1, h2⟩ := h.run H hp ps sl hps hlow ok
  refine ⟨n, sl', H', fun m hm => ?_, h2⟩
  rw [← h1 m hm]
  have hw : wants sl (some (g, b)) = some true := by
    simp only [wants]
    rw [low_get hlow hg rfl]
    simp
  have hs : stepAO (callN T m) ⟨d, op, some (g, b), re⟩ (sl, H) = stepAO (callN T m) ⟨d, op, none, re⟩ (sl, H) := by
    simp only [stepAO, hw]; rfl
  simp only [runDraw, hs]
  congr 1
  funext st'
  have hn : newPend ⟨d, op, some (g, b), re⟩ (sl, H) st' = newPend ⟨d, op, none, re⟩ (sl, H) st' := by
    simp only [newPend, hw]; rfl
  rw [hn]
/-- One that does not. -/
theorem dr_gf {d : Option Nat} {op : AOp} {g re : Nat} {b : Bool} {v : V} (hg : Gt A g v) (hv : v = .bool (!b) ∨ v = .tup []) (hA : InD d (.tup []) A A') (h : DR T r [] A' L K) : DR T (⟨d, op, some (g, b), re⟩ :: r) [] A L K := by
  refine ⟨fun H hp ps sl hps hlow ok => ?_⟩
  cases hps
  simp only [okOps, List.all_cons, Bool.and_eq_true] at ok
  have hw : wants sl (some (g, b)) = some false := by
    simp only [wants]
    rcases hv with rfl | rfl
    · rw [low_get hlow hg rfl]; cases b <;> rfl
    · rw [low_get hlow hg rfl]
  have hlow' : Low A' (putD sl d (.tup [])) := by
    have := hA.eq
    subst this
    exact low_insD hlow ok.1
  refine dr_go (n1 := 0) (ps1 := []) (PS1 := []) (fun m _ => ?_) (putD_len _ _ _) .nil hlow' hp ok.2 h
  have hs : stepAO (callN T m) ⟨d, op, some (g, b), re⟩ (sl, H) = some (putD sl d (.tup []), H) := by
    simp only [stepAO, hw]
  have hn : newPend ⟨d, op, some (g, b), re⟩ (sl, H) (putD sl d (.tup []), H) = [] := by
    unfold newPend
    split
    · rfl
    · simp only [hw]
  simp only [runDraw, hs, Option.bind_some, again, List.all_nil, if_true, lower, List.map_nil, hn, List.append_nil]
  split <;> rfl
theorem wh_raw {ops : List AO} (h : DR T ops [] A L fun A' L' => WH T fx false rr (keepM lv A') L' Q) : WH T fx false (.raw lv ops :: rr) A L Q := fun H hp => by
  intro c hm
  cases c with
  | draw ops' =>
    simp only [mtch, decide_eq_true_eq] at hm
    subst hm
    intro sl ok Lw
    obtain ⟨n, sl', H', h1, h2, A', L', h3, h4, h5⟩ := h.run H hp [] sl .nil Lw ok
    exact ⟨n, .norm, sl', H', by simp [runC, h1 n (Nat.le_refl n)], h2, _, keepM_low h3 lv, WB.mono (r := rr) (fun x st ⟨h6, h7⟩ => ⟨fun h => (by cases h), h7⟩) (h5 H' h4)⟩
  | reg ops' =>
    simp only [mtch, Bool.and_eq_true, decide_eq_true_eq] at hm
    obtain ⟨rfl, hre⟩ := hm
    intro sl ok Lw
    obtain ⟨n, sl', H', h1, h2, A', L', h3, h4, h5⟩ := h.run H hp [] sl .nil Lw ok
    exact ⟨n, .norm, sl', H', by simp only [runC]; rw [← draw_ops hre, h1 n (Nat.le_refl n)]; rfl, h2, _, keepM_low h3 lv, WB.mono (r := rr) (fun x st ⟨h6, h7⟩ => ⟨fun h => (by cases h), h7⟩) (h5 H' h4)⟩
  | seq a b => cases a <;> cases b <;> simp [mtch] at hm
  | _ => simp [mtch] at hm
theorem dr_fin (hk : Keep lv A A') (h : WH T fx false rr A' L Q) : DR T [] PS A L fun A' L' => WH T fx false rr (keepM lv A') L' Q := dr_nil (by rw [hk.eq]; exact h)
end
end Go.AM

/- Functions whose result is a slice of the caller's own; raw functions that change memory. -/
set_option linter.unusedVariables false
set_option linter.unusedSimpArgs false
namespace Go.AM
theorem Ans.pureR (ks : List Nat) {T : Nat → Option Fn} {f : Nat} {fn : AF} (ht : T f = some (.code fn)) {xs ds : List V} {H : Heap} {R : V → Heap → Prop} (hn : xs.length = fn.np) (hp : fn.pure = true) (hok : okC (fn.np + (fn.nt - fn.np)) fn.body = true) (hm : ¬ ((fn.rm = .froz ∨ fn.rm = .own) ∧ ¬ xs.all V.data = true)) (hd : xs.mapM (deep H 8) = some ds)
    (h : W T ks fn.body (argS 0 ds, []) fun x st => (x = .norm ∨ x = .ret) ∧ ∃ u v H', resS fn.res st = some u ∧ fin fn.rm u st.2 H = some (v, H') ∧ R v H') : ∃ v H', Ans T f xs H v H' ∧ R v H' := by
  obtain ⟨n, x, sl', H1, h1, -, A', L', h2, u, v, H', h3, h4, h5⟩ := h (ds ++ List.replicate (fn.nt - fn.np) (.tup [])) (by simpa [mapM_len hd, hn] using hok) (arg_low _ _)
  refine ⟨v, H', ⟨n + 1, ?_⟩, h5⟩
  simp only [callN, ht, callFn, if_pos hn, hp, if_true, if_neg hm, hd, Option.bind_some]
  unfold runF
  simp only at h4
  rcases h2 with rfl | rfl
  · simp only [h1, resS_low L' h3, Option.map_some, Option.bind_some, h4]
  · simp only [h1, resS_low L' h3, Option.map_some, Option.bind_some, h4]
theorem Ans.codeR (ks : List Nat) {T : Nat → Option Fn} {f : Nat} {fn : AF} (ht : T f = some (.code fn)) {xs : List V} {H : Heap} {R : V → Heap → Prop} (hn : xs.length = fn.np) (hp : fn.pure = false) (hok : okC (fn.np + (fn.nt - fn.np)) fn.body = true)
    (h : W T ks fn.body (argS 0 xs, H) fun x st => (x = .norm ∨ x = .ret) ∧ ∃ v, resS fn.res st = some v ∧ R v st.2) : ∃ v H', Ans T f xs H v H' ∧ R v H' := by
  obtain ⟨n, x, sl', H1, h1, -, A', L', h2, v, h3, h5⟩ := h (xs ++ List.replicate (fn.nt - fn.np) (.tup [])) (by simpa [hn] using hok) (arg_low _ _)
  refine ⟨v, H1, ⟨n + 1, ?_⟩, h5⟩
  simp only [callN, ht, callFn, if_pos hn, hp, Bool.false_eq_true, if_false]
  unfold runF
  rcases h2 with rfl | rfl
  · simp only [h1, resS_low L' h3, Option.map_some]
  · simp only [h1, resS_low L' h3, Option.map_some]
theorem rowPR {P : Program} {Le : List Nat} {t : List (Nat × Row)} (h : AllR P Le t) {f : Nat} {cv : Bool} {np : Nat} {rm : RM} {res : List Res} {body : BC} (hl : lookR t f = some (.fn cv ⟨np, true, rm, res, body⟩)) {xs ds : List V} {H : Heap} {R : V → Heap → Prop} (hn : xs.length = np) (hm : ¬ ((rm = .froz ∨ rm = .own) ∧ ¬ xs.all V.data = true)) (hd : xs.mapM (deep H 8) = some ds)
    (hw : WB (tblOf P t) (fxE Le cv) [body] (argS 0 ds, []) fun x st => (x = .norm ∨ x = .ret) ∧ ∃ u v H', resS res st = some u ∧ fin rm u st.2 H = some (v, H') ∧ R v H') : ∃ v H', Ans (tblOf P t) f xs H v H' ∧ R v H' := by
  obtain ⟨af, ht, hb⟩ := h.fn hl
  simp only [bfOk, Bool.and_eq_true, beq_iff_eq, decide_eq_true_eq] at hb
  obtain ⟨h1, h2, h3, h4, h5, h6⟩ := hb
  have h4 := resEq_eq h4
  refine Ans.pureR [] ht (by rw [h1]; exact hn) h2 h5 (by rw [h3]; exact hm) hd (W_nrm (W.mono (hw _ h6) fun x st' h => ?_))
  rw [h3, h4]
  cases x <;> exact h
theorem rowCR {P : Program} {Le : List Nat} {t : List (Nat × Row)} (h : AllR P Le t) {f : Nat} {cv : Bool} {np : Nat} {rm : RM} {res : List Res} {body : BC} (hl : lookR t f = some (.fn cv ⟨np, false, rm, res, body⟩)) {xs : List V} {H : Heap} {R : V → Heap → Prop} (hn : xs.length = np)
    (hw : WB (tblOf P t) (fxE Le cv) [body] (argS 0 xs, H) fun x st => (x = .norm ∨ x = .ret) ∧ ∃ v, resS res st = some v ∧ R v st.2) : ∃ v H', Ans (tblOf P t) f xs H v H' ∧ R v H' := by
  obtain ⟨af, ht, hb⟩ := h.fn hl
  simp only [bfOk, Bool.and_eq_true, beq_iff_eq, decide_eq_true_eq] at hb
  obtain ⟨h1, h2, h3, h4, h5, h6⟩ := hb
  have h4 := resEq_eq h4
  refine Ans.codeR [] ht (by rw [h1]; exact hn) h2 h5 (W_nrm (W.mono (hw _ h6) fun x st' h => ?_))
  rw [h4]
  cases x <;> exact h
/-- A result that is the caller's own. -/
def FinO (rm : RM) (u : V) (L : List HE) (mk : Hd → V) (s : Nat) (fl : Bool) (xs : List V) : Prop := ∀ h, HP h L → ∀ H L0, HP H L0 → ∃ g' H', fin rm u h H = some (mk g', H') ∧ HP H' (.own g' s fl xs :: L0)
section
variable {L : List HE} {g : Hd} {s : Nat} {fl : Bool} {xs : List V}
theorem thaw_own {h : Heap} (hp : HP h L) (hm : HE.own g s fl xs ∈ L) {full : Bool} (ho : (fl || (full && xs.all fun y => y.cells.all V.dsc)) = true) {H : Heap} {L0 : List HE} (h0 : HP H L0) : ∃ g' H', thaw1 h full g.v H = some (Hd.v g', H') ∧ HP H' (.own g' s fl xs :: L0) := by
  rcases hp.all _ hm with ⟨rfl, rfl⟩ | ⟨id, rfl, hr⟩
  · exact ⟨.nil, H, rfl, h0.more (fun _ _ => rfl) (.inl ⟨rfl, rfl⟩) (by simp [HE.ids, Hd.ids]) own_nd⟩
  · refine ⟨.ref H.length s xs.length, H ++ [.row s fl xs], ?_, h0.more (fun i hi => get_app hi) (.inr ⟨H.length, rfl, by simp⟩) (by simp [HE.ids, Hd.ids]) own_nd⟩
    simp only [Hd.v, thaw1, rowAt_of hr, Nat.zero_add, Nat.le_refl, List.drop_zero, List.take_length, true_and]
    rw [if_pos ho]
/-- It may be laid: nothing in it is shared, or all of it is data. -/
inductive OwOk : RM → Bool → List V → Prop where
  | flat {xs : List V} : OwOk .ownF true xs
  | flat2 {xs : List V} : OwOk .own true xs
  | data {fl : Bool} {α : Type} {f : α → V} {xs : List α} (h : RF (∀ y, (f y).cells.all V.dsc = true)) : OwOk .own fl (xs.map f)
theorem OwOk.get {rm : RM} (h : OwOk rm fl xs) : (rm = .ownF ∨ rm = .own) ∧ (fl || ((rm == .own) && xs.all fun y => y.cells.all V.dsc)) = true := by
  cases h with
  | flat => exact ⟨.inl rfl, rfl⟩
  | flat2 => exact ⟨.inr rfl, rfl⟩
  | data h =>
    refine ⟨.inr rfl, ?_⟩
    have := h.h
    simp [this]
theorem ids_own (g : Hd) : (g.v).ids.Nodup := by cases g <;> simp [Hd.v, V.ids]
theorem flat1_ids {v : V} (h : v.flat1 = true) : v.ids = [] := by cases v <;> first | rfl | cases h
theorem flat1_cellsT {v : V} (h : v.flat1 = true) : v.cells = [v] := flat1_cells h
theorem thaw_flat {h : Heap} {full : Bool} {v : V} {H : Heap} (hv : v.flat1 = true) : thaw1 h full v H = some (v, H) := by cases v <;> first | rfl | cases hv
/-- What a function gives its caller as its own. -/
inductive GO (L : List HE) (rm : RM) : V → (Hd → V) → Nat → Bool → List V → Prop where
  | one {g : Hd} {s : Nat} {fl : Bool} {xs : List V} (hm : Mem (.own g s fl xs) L) (ho : OwOk rm fl xs) : GO L rm g.v Hd.v s fl xs
  | fst {g : Hd} {s : Nat} {fl : Bool} {xs : List V} {v : V} (hm : Mem (.own g s fl xs) L) (ho : OwOk rm fl xs) (hv : RF (v.flat1 = true)) : GO L rm (.tup [g.v, v]) (fun g => .tup [g.v, v]) s fl xs
  | snd {g : Hd} {s : Nat} {fl : Bool} {xs : List V} {v : V} (hm : Mem (.own g s fl xs) L) (ho : OwOk rm fl xs) (hv : RF (v.flat1 = true)) : GO L rm (.agg [v, g.v]) (fun g => .agg [v, g.v]) s fl xs
theorem GO.get {rm : RM} {u : V} {mk : Hd → V} (h : GO L rm u mk s fl xs) : FinO rm u L mk s fl xs := fun hh hp H L0 h0 => by
  cases h with
  | @one g _ _ _ hm ho =>
    obtain ⟨hr, ho⟩ := ho.get
    obtain ⟨g', H', h1, h2⟩ := thaw_own hp hm.h ho h0
    refine ⟨g', H', ?_, h2⟩
    have hn : ((g.v).cellsT.flatMap V.ids).Nodup := by rw [Hd.cellsT]; simpa using ids_own g
    rcases hr with rfl | rfl <;> (simp only [fin]; rw [if_pos hn]; cases g <;> exact h1)
  | @fst g _ _ _ v hm ho hv =>
    obtain ⟨hr, ho⟩ := ho.get
    obtain ⟨g', H', h1, h2⟩ := thaw_own hp hm.h ho h0
    refine ⟨g', H', ?_, h2⟩
    have hn : ((V.tup [g.v, v]).cellsT.flatMap V.ids).Nodup := by
      simp only [V.cellsT, List.flatMap_cons, List.flatMap_nil, Hd.cells, flat1_cells hv.h, List.append_nil, List.singleton_append, flat1_ids hv.h]
      exact ids_own g
    rcases hr with rfl | rfl <;> (simp only [fin]; rw [if_pos hn]; simp only [thaws]; rw [h1]; simp only [Option.bind_some, thaw_flat hv.h, Option.map_some])
  | @snd g _ _ _ v hm ho hv =>
    obtain ⟨hr, ho⟩ := ho.get
    obtain ⟨g', H', h1, h2⟩ := thaw_own hp hm.h ho h0
    refine ⟨g', H', ?_, h2⟩
    have hn : ((V.agg [v, g.v]).cellsT.flatMap V.ids).Nodup := by
      simp only [V.cellsT, List.flatMap_cons, List.flatMap_nil, List.append_nil, flat1_ids hv.h, List.nil_append]
      exact ids_own g
    rcases hr with rfl | rfl <;> (simp only [fin]; rw [if_pos hn]; simp only [thaws, thaw_flat hv.h, Option.bind_some]; rw [h1]; simp only [Option.bind_some, Option.map_some])
end
/-- A pure function whose result is the caller's own. -/
class POn (T : Nat → Option Fn) (f : Nat) (ds : List V) (fr : outParam Bool) (P : outParam Prop) (mk : outParam (Hd → V)) (s : outParam Nat) (fl : outParam Bool) (xs : outParam (List V)) : Prop where
  con : P → ∀ vs H L0, vs.mapM (deep H 8) = some ds → (fr = true → vs.all V.data = true) → HP H L0 → ∃ v H', Ans T f vs H v H' ∧ ∃ g', v = mk g' ∧ HP H' (.own g' s fl xs :: L0)
theorem po {P : Program} {Le : List Nat} {t : List (Nat × Row)} (hT : AllR P Le t) {f : Nat} {cv : Bool} {np : Nat} {rm : RM} {res : List Res} {body : BC} {A : Sl} {ds : List V} {fr : Bool} {mk : Hd → V} {s : Nat} {fl : Bool} {xs : List V}
    (hw : WH (tblOf P t) (fxE Le cv) false [body] A [] fun x A L => (x = .norm ∨ x = .ret) ∧ ∃ us, RsR A L res us ∧ FinO rm (oneOr us) L mk s fl xs)
    (hl : lookR t f = some (.fn cv ⟨np, true, rm, res, body⟩) := by rfl) (hn : ds.length = np := by rfl) (hfr : ((decide (rm = .froz) || decide (rm = .own)) && !fr) = false := by rfl) (hA : ArgL 0 ds A := by exact arc) :
    ∀ vs H L0, vs.mapM (deep H 8) = some ds → (fr = true → vs.all V.data = true) → HP H L0 → ∃ v H', Ans (tblOf P t) f vs H v H' ∧ ∃ g', v = mk g' ∧ HP H' (.own g' s fl xs :: L0) := fun vs H L0 hd hx h0 => by
  have hln : vs.length = ds.length := (mapM_len hd).symm
  refine rowPR hT hl (by rw [hln, hn]) ?_ hd (WB.mono (r := [body]) (st := (argS 0 ds, [])) (fun x st ⟨_, L', h1, h2, us, h3, h4⟩ => ?_) (hA.eq ▸ hw [] (HP.nil [])))
  · rintro ⟨h1, h2⟩
    refine h2 (hx ?_)
    rcases h1 with rfl | rfl <;> simpa using hfr
  · obtain ⟨g', H', h5, h6⟩ := h4 _ h1 H L0 h0
    exact ⟨h2, oneOr us, _, H', by simp only [resS, h3 st.2 h1, Option.map_some], h5, g', rfl, h6⟩
/-- A raw function that changes memory. -/
theorem rx {P : Program} {Le : List Nat} {t : List (Nat × Row)} (hT : AllR P Le t) {f : Nat} {cv : Bool} {np : Nat} {rm : RM} {res : List Res} {body : BC} {A : Sl} {vs : List V} {L : List HE} {R : V → List HE → Prop}
    (hw : WH (tblOf P t) (fxE Le cv) false [body] A L fun x A L' => (x = .norm ∨ x = .ret) ∧ ∃ us, RsR A L' res us ∧ R (oneOr us) L')
    (hl : lookR t f = some (.fn cv ⟨np, false, rm, res, body⟩) := by rfl) (hn : vs.length = np := by rfl) (hA : ArgL 0 vs A := by exact arc) : CE (tblOf P t) f vs L R := fun H hp => by
  obtain ⟨v, H', h1, L', h2, h3⟩ := rowCR (R := fun v H' => ∃ L', HP H' L' ∧ R v L') hT hl hn (WB.mono (r := [body]) (st := (argS 0 vs, H)) (fun x st ⟨_, L', h1, h2, us, h3, h4⟩ => ⟨h2, oneOr us, by simp only [resS, h3 st.2 h1, Option.map_some], L', h1, h4⟩) (hA.eq ▸ hw H hp))
  exact ⟨v, H', L', h1, h2, h3⟩
/-- The end of a function that gives what is its caller's own. -/
theorem fo {A : Sl} {L : List HE} {rm : RM} {res : List Res} {us : List V} {u : V} {mk : Hd → V} {s : Nat} {fl : Bool} {xs xs' : List V} {x : X} (hv : xs' = xs) (hx : x = .norm ∨ x = .ret := by first | exact .inr rfl | exact .inl rfl) (hr : RsR A L res us := by exact xx) (hu : On us u := by exact xx) (hd : GO L rm u mk s fl xs' := by
  first
    | (apply GO.one; (focus exact xx); (focus first | exact OwOk.flat | exact OwOk.flat2 | exact OwOk.data ⟨fun _ => rfl⟩))
    | (apply GO.fst; (focus exact xx); (focus first | exact OwOk.flat | exact OwOk.flat2 | exact OwOk.data ⟨fun _ => rfl⟩); (focus exact RF.mk rfl))
    | (apply GO.snd; (focus exact xx); (focus first | exact OwOk.flat | exact OwOk.flat2 | exact OwOk.data ⟨fun _ => rfl⟩); (focus exact RF.mk rfl))) : (x = .norm ∨ x = .ret) ∧ ∃ us, RsR A L res us ∧ FinO rm (oneOr us) L mk s fl xs :=
  ⟨hx, us, hr, by rw [hu.eq, ← hv]; exact hd.get⟩
inductive ACO (T : Nat → Option Fn) (A : Sl) (L : List HE) (f : Nat) (es : List E) (mk : Hd → V) (s : Nat) (fl : Bool) (xs : List V) : Prop where
  | mk {vs ds : List V} {fr : Bool} {P : Prop} (he : EvL T A L es vs) (hd : Dps L 8 vs ds) (hc : POn T f ds fr P mk s fl xs) (hf : RF (fr = true → vs.all V.data = true)) (hP : OM P) : ACO T A L f es mk s fl xs
/-- A byte. -/
@[reducible] def eB (c : UInt8) : V := .int .u8 (c.toNat : Nat)
section
variable {T : Nat → Option Fn} {A A' : Sl} {L : List HE} {ds1 : List (Nat × E)} {kf : Mask} {d : Option Nat} {bs : List BS} {lv : Mask} {ds : List (Nat × E)} {z : List E} {K : List V → Sl → List HE → Prop}
theorem rco {f : Nat} {es : List E} {mk : Hd → V} {s : Nat} {fl : Bool} {xs : List V} (hr : AR T A L ds1 kf A') (h1 : ACO T A L f es mk s fl xs) (h : ∀ g, RS T false bs lv ds z (insD d (mk g) A') (.own g s fl xs :: L) K) : RS T false (.eff ds1 kf d (.call f) es :: bs) lv ds z A L K := by
  obtain ⟨ws, hd, hA⟩ := hr.get
  cases h1 with
  | mk he hds hc hf hP =>
    refine rs_call (R := fun v L' => ∃ g, v = mk g ∧ L' = .own g s fl xs :: L) hd he hA (fun H hp => ?_) ?_
    · obtain ⟨v, H', h1, g', h2, h3⟩ := hc.con hP.h _ H L (hds H hp) hf.h hp
      exact ⟨v, H', _, h1, h3, g', h2, rfl⟩
    · rintro _ _ ⟨g, rfl, rfl⟩
      exact h g
theorem rsb {a : E} {t : List UInt8} (hr : AR T A L ds1 kf A') (ha : Ev T A L a (.str t)) (h : RS T false bs lv ds z (insD d (.lst (t.map eB)) A') L K) : RS T false (.eff ds1 kf d (.e (.s2b (.t 0))) [a] :: bs) lv ds z A L K := by
  obtain ⟨ws, hd, hA⟩ := hr.get
  exact rs_eff hd (ev_cons ha ev_nil) hA fun H hp => ⟨_, H, L, rfl, hp, h⟩
end
theorem ev_ort {T : Nat → Option Fn} {A : Sl} {L : List HE} {a b : E} (ha : Ev T A L a (.bool true)) : Ev T A L (.or a b) (.bool true) := fun H hp => by
  simp only [evE, ha H hp]
theorem ev_andf {T : Nat → Option Fn} {A : Sl} {L : List HE} {a b : E} (ha : Ev T A L a (.bool false)) : Ev T A L (.and a b) (.bool false) := fun H hp => by
  simp only [evE, ha H hp]
end Go.AM

/- Calls that change one thing of a known kind. -/
set_option linter.unusedVariables false
set_option linter.unusedSimpArgs false
namespace Go.AM
/-- What kind of thing a call turns. -/
class Fam (f : Nat) (vs : List V) (α : outParam Type) (e : outParam (α → HE)) : Prop where
  tt : True
/-- A call that turns one thing: what it gives, and what the thing is behind it. -/
class CEF (T : Nat → Option Fn) {α : Type} (e : α → HE) (f : Nat) (vs : List V) (c : α) (P : outParam Prop) (v : outParam V) (c' : outParam α) : Prop where
  ce : P → ∀ L C, Hole (e c) L C → CE T f vs L (fun u L' => u = v ∧ L' = C (e c'))
inductive ACF (T : Nat → Option Fn) (A : Sl) (L : List HE) (f : Nat) (es : List E) (v : V) (L' : List HE) : Prop where
  | mk {vs : List V} {α : Type} {e : α → HE} {c c' : α} {C : HE → List HE} {P : Prop} (he : EvL T A L es vs) (hf : Fam f vs α e) (hat : Hole (e c) L C) (hc : CEF T e f vs c P v c') (hP : OM P) (hL : C (e c') = L') : ACF T A L f es v L'
section
variable {T : Nat → Option Fn} {A A' : Sl} {L L' : List HE} {ds1 : List (Nat × E)} {kf : Mask} {d : Option Nat} {bs : List BS} {lv : Mask} {ds : List (Nat × E)} {z : List E} {K : List V → Sl → List HE → Prop}
theorem rcf {f : Nat} {es : List E} {v : V} (hr : AR T A L ds1 kf A') (h1 : ACF T A L f es v L') (h : RS T false bs lv ds z (insD d v A') L' K) : RS T false (.eff ds1 kf d (.call f) es :: bs) lv ds z A L K := by
  obtain ⟨ws, hd, hA⟩ := hr.get
  cases h1 with
  | mk he hf hat hc hP hL =>
    refine rs_call hd he hA (hc.ce hP.h _ _ hat) ?_
    rintro _ _ ⟨rfl, rfl⟩
    rw [hL]; exact h
end
theorem Hole.self {e : HE} {L : List HE} {C : HE → List HE} (h : Hole e L C) : C e = L := by
  induction h with
  | here => rfl
  | there _ ih => exact congrArg _ ih
/-- The end of a raw function that gives nothing. -/
theorem fe {A : Sl} {L L' : List HE} {v : V} {x : X} (hv : V.tup [] = v) (hL : L = L') (hx : x = .norm ∨ x = .ret := by first | exact .inr rfl | exact .inl rfl) : (x = .norm ∨ x = .ret) ∧ ∃ us, RsR A L [] us ∧ oneOr us = v ∧ L = L' := ⟨hx, [], rr_nil, hv, hL⟩
/-- The end of a raw function that gives something. -/
theorem fv {A : Sl} {L L' : List HE} {res : List Res} {us : List V} {u v : V} {x : X} (hv : u = v) (hL : L = L') (hx : x = .norm ∨ x = .ret := by first | exact .inr rfl | exact .inl rfl) (hr : RsR A L res us := by exact xx) (hu : On us u := by exact xx) : (x = .norm ∨ x = .ret) ∧ ∃ us, RsR A L res us ∧ oneOr us = v ∧ L = L' := ⟨hx, us, hr, by rw [hu.eq]; exact hv, hL⟩
/-- What stands behind a piece of code whose ways meet again. -/
def jnH (J : Sl → List HE → Prop) (Q : X → Sl → List HE → Prop) : X → Sl → List HE → Prop
  | .norm, A, L => J A L
  | .exit j, A, L => Q (.exit j) A L
  | .ret, A, L => Q .ret A L
section
variable {T : Nat → Option Fn} {fx : FX} {S : Bool} {A : Sl} {L : List HE} {Q : X → Sl → List HE → Prop} {r : List BC}
theorem wh_cat (J : Sl → List HE → Prop) {a : BC} (h1 : WH T fx S [a] A L (jnH J Q)) (h2 : ∀ A L, J A L → WH T fx S r A L Q) : WH T fx S (a :: r) A L Q := fun H hp c hm =>
  W.mono (h1 H hp c hm) fun x st h => by
    cases x with
    | norm => obtain ⟨hS, L', h3, h4⟩ := h; exact WH.at (h2 _ _ h4) h3 hS
    | exit j => exact h
    | ret => exact h
theorem jn_exit {J : Sl → List HE → Prop} {j : Nat} (h : Q (.exit j) A L) : jnH J Q (.exit j) A L := h
theorem jn_ret {J : Sl → List HE → Prop} (h : Q .ret A L) : jnH J Q .ret A L := h
end
/-- A raw function that changes memory and leaves things behind that nobody names. -/
theorem rxg {P : Program} {Le : List Nat} {t : List (Nat × Row)} (hT : AllR P Le t) {f : Nat} {cv : Bool} {np : Nat} {rm : RM} {res : List Res} {body : BC} {A : Sl} {vs : List V} {L : List HE} {R : V → List HE → Prop}
    (hw : WH (tblOf P t) (fxE Le cv) false [body] A L fun x A L' => (x = .norm ∨ x = .ret) ∧ ∃ us, RsR A L' res us ∧ ∃ L'', Sb L'' L' ∧ R (oneOr us) L'')
    (hl : lookR t f = some (.fn cv ⟨np, false, rm, res, body⟩) := by rfl) (hn : vs.length = np := by rfl) (hA : ArgL 0 vs A := by exact arc) : CE (tblOf P t) f vs L R := fun H hp => by
  obtain ⟨v, H', h1, L', h2, h3⟩ := rowCR (R := fun v H' => ∃ L', HP H' L' ∧ R v L') hT hl hn (WB.mono (r := [body]) (st := (argS 0 vs, H)) (fun x st ⟨_, L', h1, h2, us, h3, L'', h5, h4⟩ => ⟨h2, oneOr us, by simp only [resS, h3 st.2 h1, Option.map_some], L'', h1.sb h5, h4⟩) (hA.eq ▸ hw H hp))
  exact ⟨v, H', L', h1, h2, h3⟩
/-- Its end. -/
theorem fvg {A : Sl} {L L' L'' : List HE} {res : List Res} {us : List V} {u v : V} {x : X} (hv : u = v) (hs : Sb L'' L) (hL : L'' = L') (hx : x = .norm ∨ x = .ret := by first | exact .inr rfl | exact .inl rfl) (hr : RsR A L res us := by exact xx) (hu : On us u := by exact xx) : (x = .norm ∨ x = .ret) ∧ ∃ us, RsR A L res us ∧ ∃ L'', Sb L'' L ∧ oneOr us = v ∧ L'' = L' := ⟨hx, us, hr, L'', hs, by rw [hu.eq]; exact hv, hL⟩
end Go.AM

/- The walking line, cut short: each step's rules behind one word. -/
set_option linter.unusedVariables false
set_option linter.unusedSimpArgs false
namespace Go.AM
universe u
structure Wr (Q : Prop) : Prop where
  q : Q
theorem s'0 {Q P : Prop} (h : Wr Q → P) (q : Q) : P := h ⟨q⟩
theorem s'1 {α : Sort u} {P : Prop} {Q : α → Prop} (h : Wr (∀ a, Q a) → P) (q : ∀ a, Q a) : P := h ⟨q⟩
theorem s'2 {c a b P : Prop} (h : Wr (c → a) → Wr (¬ c → b) → P) (p : c → a) (q : ¬ c → b) : P := h ⟨p⟩ ⟨q⟩
/-- A step that goes on in one way. -/
theorem w'0 {P : Prop} (h : P := by
  intro q
  first
    | (apply dr_fin; (focus exact xx))
    | (apply dr_gt; (focus exact xx))
    | (apply dr_gf; (focus exact xx); (focus first | exact .inl rfl | exact .inr rfl); focus (first | exact InD.no | (apply InD.so; (focus exact xx))))
    | (apply dr_v; focus (apply DV.mk; (focus exact RF.mk rfl); (focus exact RF.mk rfl); (focus exact RF.mk rfl); (focus exact RF.mk rfl); (focus exact xx); focus (first | exact InD.no | (apply InD.so; (focus exact xx)))))
    | (apply dr_ve; focus (apply DVE.mk; (focus exact RF.mk rfl); (focus exact RF.mk rfl); (focus exact RF.mk rfl); (focus exact xx); focus (first | exact InD.no | (apply InD.so; (focus exact xx)))))
    | (apply dr_r; focus (apply DL.mk; (focus exact RF.mk rfl); (focus exact xx); (focus exact xx); focus (first | exact InD.no | (apply InD.so; (focus exact xx)))))
    | (apply dr_l; (focus exact RF.mk rfl); (focus exact RF.mk rfl); (focus exact RF.mk rfl); (focus exact RF.mk rfl); (focus exact RF.mk rfl))
    | (apply dr_e; (focus exact RF.mk rfl); (focus exact RF.mk rfl); (focus exact RF.mk rfl); (focus exact RF.mk rfl))
    | (apply rd_e; (focus exact xx); focus (repeat first | exact PO.nil | apply PO.zero | (apply PO.ld; (focus exact xx))))
    | (apply rd_l; (focus exact xx))
    | refine wh_seq ?_
    | refine wh_skip ?_
    | refine wh_block ?_
    | refine wh_end ?_
    | refine wh_exit ?_
    | refine wh_ret ?_
    | refine bk_norm ?_
    | refine bk_exit ?_
    | refine bk_ret ?_
    | refine fr_exit ?_
    | refine fr_ret ?_
    | refine lp_exit ?_
    | refine lp_ret ?_
    | refine jn_exit ?_
    | refine jn_ret ?_
    | refine bk_other rfl ?_
    | (apply wr; focus exact xx)
    | refine wh_reg ?_
    | refine wh_ife ?_
    | (apply re; focus exact xx)
    | (apply rsi; (focus exact xx); (focus exact xx); all_goals first | infer_instance | skip)
    | (apply rsz; (focus exact xx); (focus exact xx); all_goals first | infer_instance | skip)
    | (apply rt; (focus exact xx); (focus exact xx))
    | (apply rso; (focus exact xx); (focus exact xx); all_goals first | infer_instance | skip)
    | (apply rsb; (focus exact xx); (focus exact xx))
    | (apply ru; (focus exact xx); (focus exact xx))
    | (apply rcf; (focus exact xx); (focus (apply ACF.mk; (focus exact xx); (focus exact inferInstance); (focus exact xx); (focus exact inferInstance); (focus exact xx); (focus exact rfl))))
    | (apply rc; (focus exact xx); (focus exact xx))
    | (apply rk'; (focus exact xx); (focus exact xx))
  exact q.q) : P := h
/-- The same, but it stops ahead of an `if`. -/
theorem w'v {P : Prop} (h : P := by
  intro q
  first
    | (apply dr_fin; (focus exact xx))
    | (apply dr_gt; (focus exact xx))
    | (apply dr_gf; (focus exact xx); (focus first | exact .inl rfl | exact .inr rfl); focus (first | exact InD.no | (apply InD.so; (focus exact xx))))
    | (apply dr_v; focus (apply DV.mk; (focus exact RF.mk rfl); (focus exact RF.mk rfl); (focus exact RF.mk rfl); (focus exact RF.mk rfl); (focus exact xx); focus (first | exact InD.no | (apply InD.so; (focus exact xx)))))
    | (apply dr_ve; focus (apply DVE.mk; (focus exact RF.mk rfl); (focus exact RF.mk rfl); (focus exact RF.mk rfl); (focus exact xx); focus (first | exact InD.no | (apply InD.so; (focus exact xx)))))
    | (apply dr_r; focus (apply DL.mk; (focus exact RF.mk rfl); (focus exact xx); (focus exact xx); focus (first | exact InD.no | (apply InD.so; (focus exact xx)))))
    | (apply dr_l; (focus exact RF.mk rfl); (focus exact RF.mk rfl); (focus exact RF.mk rfl); (focus exact RF.mk rfl); (focus exact RF.mk rfl))
    | (apply dr_e; (focus exact RF.mk rfl); (focus exact RF.mk rfl); (focus exact RF.mk rfl); (focus exact RF.mk rfl))
    | (apply rd_e; (focus exact xx); focus (repeat first | exact PO.nil | apply PO.zero | (apply PO.ld; (focus exact xx))))
    | (apply rd_l; (focus exact xx))
    | refine wh_seq ?_
    | refine wh_skip ?_
    | refine wh_block ?_
    | refine wh_end ?_
    | refine wh_exit ?_
    | refine wh_ret ?_
    | refine bk_norm ?_
    | refine bk_exit ?_
    | refine bk_ret ?_
    | refine fr_exit ?_
    | refine fr_ret ?_
    | refine lp_exit ?_
    | refine lp_ret ?_
    | refine jn_exit ?_
    | refine jn_ret ?_
    | refine bk_other rfl ?_
    | (apply wr; focus exact xx)
    | refine wh_reg ?_
    | (apply re; focus exact xx)
    | (apply rsi; (focus exact xx); (focus exact xx); all_goals first | infer_instance | skip)
    | (apply rsz; (focus exact xx); (focus exact xx); all_goals first | infer_instance | skip)
    | (apply rt; (focus exact xx); (focus exact xx))
    | (apply rso; (focus exact xx); (focus exact xx); all_goals first | infer_instance | skip)
    | (apply rsb; (focus exact xx); (focus exact xx))
    | (apply ru; (focus exact xx); (focus exact xx))
    | (apply rcf; (focus exact xx); (focus (apply ACF.mk; (focus exact xx); (focus exact inferInstance); (focus exact xx); (focus exact inferInstance); (focus exact xx); (focus exact rfl))))
    | (apply rc; (focus exact xx); (focus exact xx))
    | (apply rk'; (focus exact xx); (focus exact xx))
  exact q.q) : P := h
/-- A step that brings something new. -/
theorem w'1 {P : Prop} (h : P := by
  intro q
  first
    | (apply ra; (focus exact xx); (focus exact xx))
    | (apply r1; (focus exact xx); (focus exact xx))
    | (apply rl; (focus exact xx); (focus exact xx))
    | (apply rb; (focus exact xx); (focus exact xx))
    | (apply rmm; (focus exact xx))
    | (apply rm; (focus exact xx); (focus exact xx))
    | (apply rk; (focus exact xx); (focus exact xx))
    | (apply rco; (focus exact xx); (focus (apply ACO.mk; (focus exact xx); (focus exact xx); (focus exact inferInstance); (focus exact xx); (focus exact xx))))
  exact q.q) : P := h
/-- A step that goes on in two ways. -/
theorem w'2 {P : Prop} (h : P := by
  intro p q
  first
    | (apply wi; (focus exact xx); (focus exact xx))
    | (apply rf; (focus exact xx); (focus exact xx))
  · exact p.q
  · exact q.q) : P := h
end Go.AM

