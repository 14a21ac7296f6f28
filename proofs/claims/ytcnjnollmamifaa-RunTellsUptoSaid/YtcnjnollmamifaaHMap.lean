/- Maps that a call made, seen as partial functions over their keys. -/
import Derived.Maps.OwnSet
import Derived.Maps.RangeWalk
import Derived.Carry
set_option linter.unusedVariables false
set_option linter.unusedSimpArgs false
namespace Go.Proofs.YtcnjnollmamifaaH
open Go Go.Maps

abbrev DU := DataW Unit
/-- The map's datum read as a partial function of the keys that are well formed; c: how many keys there are. -/
structure MView {κ ν : Type} (klit : κ → Lit) (wfk : κ → Prop) (vd : ν → DU) (D : DU) (g : κ → Option ν) (c : Nat) : Prop where
  tidy : Tidy D
  size : Maps.size D = c
  yes : ∀ x v, wfk x → g x = some v → Maps.has D (klit x) = true ∧ ∀ z, D.atKey (klit x) z = vd v
  no : ∀ x, wfk x → g x = none → Maps.has D (klit x) = false
def upd {κ ν : Type} [DecidableEq κ] (g : κ → Option ν) (x : κ) (v : ν) : κ → Option ν := fun y => if y = x then some v else g y
section
variable {κ ν : Type} {klit : κ → Lit} {wfk : κ → Prop} {vd : ν → DU}
theorem MView.empty : MView klit wfk vd (.map []) (fun _ => none) 0 :=
  ⟨tidy_empty, rfl, fun _ _ _ h => (by cases h), fun _ _ _ => rfl⟩
theorem MView.put [DecidableEq κ] {D : DU} {g : κ → Option ν} {c : Nat} (h : MView klit wfk vd D g c) (hinj : ∀ x y, wfk x → wfk y → klit x = klit y → x = y) (hkey : ∀ x, wfk x → WideAt.IsKeyLit (klit x)) (x : κ) (hx : wfk x) (v : ν) :
    MView klit wfk vd (D.put (klit x) (vd v)) (upd g x v) (if (g x).isSome then c else c + 1) := by
  refine ⟨h.tidy.put (hkey x hx) _, ?_, fun y u hy hu => ?_, fun y hy hn => ?_⟩
  · rw [size_put h.tidy]
    cases hg : g x with
    | none => rw [h.no x hx hg]; simp [h.size]
    | some u => rw [(h.yes x u hx hg).1]; simp [h.size]
  · unfold upd at hu
    by_cases e : y = x
    · subst e
      rw [if_pos rfl] at hu
      cases hu
      exact ⟨has_put_same h.tidy.isMap (hkey y hy) _, fun z => atKey_put_same h.tidy.isMap (hkey y hy) _ z⟩
    · rw [if_neg e] at hu
      have hne : klit y ≠ klit x := fun e' => e (hinj y x hy hx e')
      obtain ⟨h1, h2⟩ := h.yes y u hy hu
      exact ⟨by rw [has_put_other hne]; exact h1, fun z => by rw [atKey_put_other hne]; exact h2 z⟩
  · unfold upd at hn
    by_cases e : y = x
    · rw [if_pos e] at hn; cases hn
    · rw [if_neg e] at hn
      have hne : klit y ≠ klit x := fun e' => e (hinj y x hy hx e')
      rw [has_put_other hne]
      exact h.no y hy hn
theorem MView.has_eq {D : DU} {g : κ → Option ν} {c : Nat} (h : MView klit wfk vd D g c) (x : κ) (hx : wfk x) : Maps.has D (klit x) = (g x).isSome := by
  cases hg : g x with
  | none => rw [h.no x hx hg]; rfl
  | some u => rw [(h.yes x u hx hg).1]; rfl
theorem MView.at_eq {D : DU} {g : κ → Option ν} {c : Nat} (h : MView klit wfk vd D g c) (x : κ) (hx : wfk x) (z : ν) : D.atKey (klit x) (vd z) = vd ((g x).getD z) := by
  cases hg : g x with
  | none => rw [atKey_of_not_has (h.no x hx hg)]; rfl
  | some u => rw [(h.yes x u hx hg).2]; rfl
theorem MView.congr {D : DU} {g g' : κ → Option ν} {c : Nat} (h : MView klit wfk vd D g c) (e : ∀ x, g x = g' x) : MView klit wfk vd D g' c := by
  have : g = g' := funext e
  rwa [← this]
end

/-! ### a map of plain elements -/
section
variable {P : Program} {t k e : TypeId} {w : World} {b n : Nat} {D : DU}
theorem bool_inv (he : P.underlying e = some .bool) {v : Value} {z : DU × List MemPlace} (h : plainElem P e v = some z) : ∃ x, v = .bool x ∧ z = (.lit (.bool x), []) := by
  unfold plainElem at h
  rw [he] at h
  cases v <;> simp at h
  subst h
  exact ⟨_, rfl, rfl⟩
/-- 'm[k]' of a map of bools. -/
theorem look_bool (h : w.ownsMap P k (plainElem P e) b n D) (K : Keyed P k) (ht : P.underlying t = some (.map k e)) (he : P.underlying e = some .bool) (hz : (zeroValue e).run P w = .ok (.bool false) w) {κ : Type} {klit : κ → Lit} {wfk : κ → Prop} {g : κ → Option Bool} {c : Nat}
    (hv : MView klit wfk (fun y => (.lit (.bool y) : DU)) D g c) (x : κ) (hx : wfk x) {key : Value} (hkey : keyOf P k key = some (klit x)) :
    (Instr.lookup t (.map (some b)) key false).run P w = .ok (.bool ((g x).getD false)) w := by
  obtain ⟨v, ps, hrun, hR⟩ := h.lookup K ht hz (plainElem_bool he false) hkey
  obtain ⟨y, rfl, hy⟩ := bool_inv he hR
  rw [hv.at_eq x hx false] at hy
  simp only [Prod.mk.injEq, DataW.lit.injEq, Lit.bool.injEq] at hy
  rw [hrun, hy.1]
/-- 'm[k]' of a map of integers. -/
theorem look_int {q : IntKind} (h : w.ownsMap P k (plainElem P e) b n D) (K : Keyed P k) (ht : P.underlying t = some (.map k e)) (he : P.underlying e = some (.int q)) (hz : (zeroValue e).run P w = .ok (.int q 0) w) {κ : Type} {klit : κ → Lit} {wfk : κ → Prop} {g : κ → Option Int} {c : Nat}
    (hv : MView klit wfk (fun y => (.lit (.int q y) : DU)) D g c) (x : κ) (hx : wfk x) {key : Value} (hkey : keyOf P k key = some (klit x)) :
    (Instr.lookup t (.map (some b)) key false).run P w = .ok (.int q ((g x).getD 0)) w := by
  obtain ⟨v, hrun, hat, _⟩ := h.lookup_int K ht he hz hkey
  rw [hv.at_eq x hx 0] at hat
  simp only [DataW.lit.injEq, Lit.int.injEq, true_and] at hat
  rw [hrun, ← hat]
/-- 'v, ok := m[k]' of a map of integers. -/
theorem look_int_ok {q : IntKind} (h : w.ownsMap P k (plainElem P e) b n D) (K : Keyed P k) (ht : P.underlying t = some (.map k e)) (he : P.underlying e = some (.int q)) (hz : (zeroValue e).run P w = .ok (.int q 0) w) {κ : Type} {klit : κ → Lit} {wfk : κ → Prop} {g : κ → Option Int} {c : Nat}
    (hv : MView klit wfk (fun y => (.lit (.int q y) : DU)) D g c) (x : κ) (hx : wfk x) {key : Value} (hkey : keyOf P k key = some (klit x)) :
    (Instr.lookup t (.map (some b)) key true).run P w = .ok (.tuple #[.int q ((g x).getD 0), .bool (g x).isSome]) w := by
  have hw0 : (Lit.int q 0).wf = true := by cases q <;> decide
  obtain ⟨v, ps, hrun, hR⟩ := h.look_ok K ht hz (plainElem_int he hw0) hkey
  obtain ⟨y, rfl, hy, _⟩ := plainElem_int_inv he hR
  rw [hv.at_eq x hx 0] at hy
  simp only [Prod.mk.injEq, DataW.lit.injEq, Lit.int.injEq, true_and] at hy
  rw [hrun, hy.1, hv.has_eq x hx]
end
/-! ### the laws at the operation -/
section
variable {P : Program} {w : World} {ops : Array Oper} {rest : List Oper} {o : Oper} {a : Act} {Q : Exit → Act → World → Prop}
theorem wp_look_int_ok (hg : o.guard = none) (m x : Operand) (t : TypeId) (hop : o.op = Op.lookup t m x true) (k e : TypeId) (q : IntKind) (K : Keyed P k) (ht : P.underlying t = some (.map k e)) (he : P.underlying e = some (.int q)) (hz : (zeroValue e).run P w = .ok (.int q 0) w)
    (b n : Nat) (D : DU) (hm : a.eval m = .map (some b)) (hown : w.ownsMap P k (plainElem P e) b n D) {κ : Type} {klit : κ → Lit} {wfk : κ → Prop} {g : κ → Option Int} {c : Nat} (hv : MView klit wfk (fun y => (.lit (.int q y) : DU)) D g c)
    (y : κ) (hy : wfk y) (r : Option Int) (hr : g y = r) (key : Value) (hx : a.eval x = key) (hkey : keyOf P k key = some (klit y)) (hK : wpList P ops Q rest (a.put o.dst (.tuple #[.int q (r.getD 0), .bool r.isSome])) w) : wpList P ops Q (o :: rest) a w := by
  refine wpList_plain hg fun K' hK' => ?_
  have hrun := look_int_ok hown K ht he hz hv y hy hkey
  rw [hr] at hrun
  unfold Oper.wp
  simp only [execOp, hop, hm, hx]
  simp [hrun, Result.andThen]
  exact hK' _ _ hK
theorem wp_look_bool (hg : o.guard = none) (m x : Operand) (t : TypeId) (hop : o.op = Op.lookup t m x false) (k e : TypeId) (K : Keyed P k) (ht : P.underlying t = some (.map k e)) (he : P.underlying e = some .bool) (hz : (zeroValue e).run P w = .ok (.bool false) w)
    (b n : Nat) (D : DU) (hm : a.eval m = .map (some b)) (hown : w.ownsMap P k (plainElem P e) b n D) {κ : Type} {klit : κ → Lit} {wfk : κ → Prop} {g : κ → Option Bool} {c : Nat} (hv : MView klit wfk (fun y => (.lit (.bool y) : DU)) D g c)
    (y : κ) (hy : wfk y) (r : Option Bool) (hr : g y = r) (key : Value) (hx : a.eval x = key) (hkey : keyOf P k key = some (klit y)) (hK : wpList P ops Q rest (a.put o.dst (.bool (r.getD false))) w) : wpList P ops Q (o :: rest) a w := by
  refine wpList_plain hg fun K' hK' => ?_
  have hrun := look_bool hown K ht he hz hv y hy hkey
  rw [hr] at hrun
  unfold Oper.wp
  simp only [execOp, hop, hm, hx]
  simp [hrun, Result.andThen]
  exact hK' _ _ hK
theorem wp_len_map (hg : o.guard = none) (m : Operand) (t : TypeId) (hop : o.op = Op.call { callee := Callee.builtin Builtin.len, args := #[m], argTypes := #[t] }) (k e : TypeId) (ht : P.underlying t = some (.map k e))
    (b n : Nat) (D : DU) {R : Value → Option (DU × List MemPlace)} (hm : a.eval m = .map (some b)) (hown : w.ownsMap P k R b n D) (c : Nat) (hc : Maps.size D = c) (hK : wpList P ops Q rest (a.put o.dst (.int .i64 c)) w) : wpList P ops Q (o :: rest) a w := by
  subst hc
  exact wpList_len_own _ hg m t hop k e ht R b n D hm hown hK
end
/-! ### integer keys -/
def ilit (a : Int) : Lit := .int .i64 a
def iwf (a : Int) : Prop := (Lit.int .i64 a).wf = true
instance (a : Int) : Decidable (iwf a) := inferInstanceAs (Decidable (_ = _))
theorem ilit_inj : ∀ x y, iwf x → iwf y → ilit x = ilit y → x = y := fun x y _ _ h => by simpa [ilit] using h
theorem iwf_iff (a : Int) : iwf a ↔ -9223372036854775808 ≤ a ∧ a ≤ 9223372036854775807 := by
  simp [iwf, Lit.wf, IntKind.min, IntKind.max, IntKind.signed, IntKind.bits]
end Go.Proofs.YtcnjnollmamifaaH
