/- From a reading of an argument to the print's kinds: what is read is such a value, well formed, no greater than the reading's bulk. -/
import Derived.Test.YtcnjnollmamifaaRows
import Derived.Test.YtcnjnollmamifaaHEv
import Derived.Deep.Slices
import Derived.ChangeArms
import Derived.WideShapes
set_option linter.unusedVariables false
set_option linter.unusedSimpArgs false
namespace Go.Proofs.YtcnjnollmamifaaH
open Go Go.Deep Go.Proofs.YtcnjnollmamifaaW.PrintWords
open Go.Proofs.Ytcnjnollmamifaa.Rows (uptoBulk uptoBulkAll)

def Opens (P : Program) (W : World) {α : Type} (K : Kd α) (t : TypeId) (wf : α → Prop) (wt : α → Nat) : Prop :=
  ∀ (H : Type) (enc : TypeId × Value → H) (spare : Nat → Bool) (held : Bool) (fuel : Nat) (cs : List Value) (x : DataW H × List MemPlace),
    DataW.trod enc P W 0 spare held fuel t cs = some x → ∃ y, K.K W y cs ∧ wf y ∧ wt y ≤ uptoBulk x.1
variable {P : Program} {W : World}
theorem opens_int {t : TypeId} {k : IntKind} (ht : P.underlying t = some (.int k)) : Opens P W (Kd.int k) t (fun a => (Lit.int k a).wf = true) (fun _ => 1) := by
  intro H enc spare held fuel cs x h
  obtain ⟨n, rfl, rfl, hw⟩ := DataW.trod_int ht h
  exact ⟨n, rfl, hw, by simp [uptoBulk]⟩
theorem opens_bool {t : TypeId} (ht : P.underlying t = some .bool) : Opens P W Kd.bool t (fun _ => True) (fun _ => 1) := by
  intro H enc spare held fuel cs x h
  obtain ⟨n, rfl, rfl⟩ := DataW.trod_bool ht h
  exact ⟨n, rfl, trivial, by simp [uptoBulk]⟩
theorem opens_string {t : TypeId} (ht : P.underlying t = some .string) : Opens P W Kd.string t (fun _ => True) (fun s => s.size + 1) := by
  intro H enc spare held fuel cs x h
  obtain ⟨n, rfl, rfl, hw⟩ := DataW.trod_string ht h
  refine ⟨n, rfl, trivial, ?_⟩
  simp only [uptoBulk]
  rw [Array.length_toList]
  exact Nat.le_refl _
theorem bulkAll_map {H : Type} (D : Nat → DataW H) : ∀ n, uptoBulkAll ((List.range n).map D) = wsum (fun i => uptoBulk (D i)) (List.range n) := by
  intro n
  generalize List.range n = l
  induction l with
  | nil => rfl
  | cons a l ih => simp only [List.map_cons, uptoBulkAll, wsum, ih]
theorem opens_slice {α : Type} {K : Kd α} {t e : TypeId} {wf : α → Prop} {wt : α → Nat} (ht : P.underlying t = some (.slice e)) (hsz : P.cellsOf e = K.sz) (h : Opens P W K e wf wt) [Inhabited α] :
    Opens P W (Kd.slice e K) t (fun xs => ∀ x ∈ xs, wf x) (fun xs => wsum wt xs + 1) := by
  intro H enc spare held fuel cs x hx
  rcases open_slice ht hx with ⟨rfl, rfl⟩ | ⟨a, len, cap, m, n, D, Pl, rfl, _, hl, hm, hmm, rfl, hall⟩
  · exact ⟨[], ⟨none, 0, rfl, Nat.le_refl _, rfl, by simp, fun h => absurd h (by simp)⟩, by simp, by simp [wsum, uptoBulk]⟩
  · have hlm : len ≤ m := by rw [hmm]; split <;> omega
    have h1 : ∀ i, i < len → ∃ y : α, ∃ c, W.cells? 0 (a.add (i * P.cellsOf e)) (P.cellsOf e) = some c ∧ K.K W y c ∧ wf y ∧ wt y ≤ uptoBulk (D i) := by
      intro i hi
      obtain ⟨c, hc, ht'⟩ := hall i (by omega)
      obtain ⟨y, h1, h2, h3⟩ := h H enc spare held n c _ ht'
      exact ⟨y, c, hc, h1, h2, h3⟩
    obtain ⟨f, hf⟩ := choose_lt h1
    refine ⟨(List.range len).map f, ⟨some a, cap, by simp, by simpa using hl, by simp, by simp; unfold maxLen at hm; omega, fun h0 => ⟨a, rfl, fun j p hj => ?_⟩⟩, ?_, ?_⟩
    · have hj' : j < len := by
        have := (List.getElem?_eq_some_iff.1 hj).1
        simpa using this
      have hp : f j = p := by simpa [hj'] using hj
      subst hp
      obtain ⟨c, hc, hk, _⟩ := hf j hj'
      obtain ⟨_, hlen, hcell⟩ := World.cells?_some hc
      refine ⟨c, by rw [hlen, hsz], hk, fun i u hu => ?_⟩
      have hi : i < c.length := (List.getElem?_eq_some_iff.1 hu).1
      rw [← hsz, ← Go.Deep.add_add, hcell i (by omega), hu]
    · intro x hx
      obtain ⟨i, hi, rfl⟩ := List.mem_map.1 hx
      obtain ⟨_, _, _, h2, _⟩ := hf i (by simpa using hi)
      exact h2
    · simp only [uptoBulk]
      rw [bulkAll_map]
      have : ∀ l : List Nat, (∀ i ∈ l, i < len) → wsum wt (l.map f) ≤ wsum (fun i => uptoBulk (D i)) l := by
        intro l
        induction l with
        | nil => intro _; exact Nat.le_refl _
        | cons i l ih =>
          intro hl'
          simp only [List.map_cons, wsum]
          have := ih (fun j hj => hl' j (List.mem_cons_of_mem _ hj))
          obtain ⟨_, _, _, _, h3⟩ := hf i (hl' i List.mem_cons_self)
          omega
      have := this (List.range len) (fun i hi => by simpa using hi)
      omega
/-- The fields of a struct, from one on, whose cells begin at 'off'. -/
def OpensF (P : Program) (W : World) {α : Type} (K : Kd α) (fs : List Field) (off : Nat) (wf : α → Prop) (wt : α → Nat) : Prop :=
  ∀ (H : Type) (enc : TypeId × Value → H) (spare : Nat → Bool) (held : Bool) (fuel : Nat) (cs : List Value) (xs : List (DataW H × List MemPlace)), cs.length = off + K.sz →
    (fs.mapM fun f => DataW.trod enc P W 0 spare held fuel f.type ((cs.drop f.offset).take (P.cellsOf f.type))) = some xs → ∃ y, K.K W y (cs.drop off) ∧ wf y ∧ wt y ≤ uptoBulkAll (xs.map (·.1))
theorem opensF_one {α : Type} {K : Kd α} {f : Field} {wf : α → Prop} {wt : α → Nat} (off : Nat) (ho : f.offset = off) (hsz : P.cellsOf f.type = K.sz) (h : Opens P W K f.type wf wt) : OpensF P W K [f] off wf wt := by
  intro H enc spare held fuel cs xs hl hx
  simp only [List.mapM_cons, List.mapM_nil, Option.pure_def, Option.bind_eq_bind, Option.bind_eq_some_iff] at hx
  obtain ⟨x, hx, z, hz, hxs⟩ := hx
  cases hz
  cases hxs
  rw [ho, hsz, List.take_of_length_le (by rw [List.length_drop]; omega)] at hx
  obtain ⟨y, h1, h2, h3⟩ := h H enc spare held fuel _ x hx
  exact ⟨y, h1, h2, by simp only [List.map_cons, List.map_nil, uptoBulkAll]; omega⟩
theorem opensF_cons {α β : Type} {K : Kd α} {L : Kd β} {f : Field} {fs : List Field} {wf : α → Prop} {wt : α → Nat} {wf' : β → Prop} {wt' : β → Nat} (off : Nat) (ho : f.offset = off) (hsz : P.cellsOf f.type = K.sz) (h : Opens P W K f.type wf wt) (h' : OpensF P W L fs (off + K.sz) wf' wt') :
    OpensF P W (Kd.pair K L) (f :: fs) off (fun x => wf x.1 ∧ wf' x.2) (fun x => wt x.1 + wt' x.2) := by
  intro H enc spare held fuel cs xs hl hx
  simp only [List.mapM_cons, Option.pure_def, Option.bind_eq_bind, Option.bind_eq_some_iff] at hx
  obtain ⟨x, hx, ys, hys, hxs⟩ := hx
  cases hxs
  have hl' : cs.length = off + (K.sz + L.sz) := hl
  rw [ho, hsz] at hx
  obtain ⟨y, h1, h2, h3⟩ := h H enc spare held fuel _ x hx
  obtain ⟨z, h4, h5, h6⟩ := h' H enc spare held fuel cs ys (by omega) hys
  refine ⟨(y, z), ⟨_, _, ?_, h1, h4⟩, ⟨h2, h5⟩, by simp only [List.map_cons, uptoBulkAll]; omega⟩
  rw [← List.drop_drop, List.take_append_drop]
theorem struct_parts {H : Type} {enc : TypeId × Value → H} {spare : Nat → Bool} {held : Bool} {fuel : Nat} {t : TypeId} {cs : List Value} {x : DataW H × List MemPlace} {fs : Array Field} (ht : P.underlying t = some (.struct fs)) (h : DataW.trod enc P W 0 spare held fuel t cs = some x) :
    ∃ (xs : List (DataW H × List MemPlace)) (n : Nat), cs.length = P.cellsOf t ∧ (fs.toList.mapM fun f => DataW.trod enc P W 0 spare held n f.type ((cs.drop f.offset).take (P.cellsOf f.type))) = some xs ∧ x = (.agg (xs.map (·.1)), xs.flatMap (·.2)) := by
  cases fuel with
  | zero => simp [DataW.trod] at h
  | succ n =>
    unfold DataW.trod at h
    rw [ht] at h
    split at h <;> simp_all
    obtain ⟨hl, xs, hp, hd⟩ := h
    exact ⟨xs, ⟨n, hp⟩, hd.symm⟩
/-- A struct that is a parameter: its fields as a tuple. -/
theorem opens_tuple {α : Type} {K : Kd α} {t : TypeId} {fs : Array Field} {wf : α → Prop} {wt : α → Nat} (ht : P.underlying t = some (.struct fs)) (hsz : P.cellsOf t = K.sz) (h : OpensF P W K fs.toList 0 wf wt) :
    Opens P W K t wf (fun x => wt x + 1) := by
  intro H enc spare held fuel cs x hx
  obtain ⟨xs, n, hl, hxs, rfl⟩ := struct_parts ht hx
  obtain ⟨y, h1, h2, h3⟩ := h H enc spare held n cs xs (by omega) hxs
  exact ⟨y, by simpa using h1, h2, by simp only [uptoBulk]; omega⟩
theorem opens_struct {α β : Type} {K : Kd α} {t : TypeId} {fs : Array Field} {g : β → α} {wf : α → Prop} {wt : α → Nat} (inv : α → β) (hinv : ∀ x, g (inv x) = x) (ht : P.underlying t = some (.struct fs)) (hsz : P.cellsOf t = K.sz) (h : OpensF P W K fs.toList 0 wf wt) :
    Opens P W (Kd.iso K g) t (fun x => wf (g x)) (fun x => wt (g x) + 1) := by
  intro H enc spare held fuel cs x hx
  obtain ⟨xs, n, hl, hxs, rfl⟩ := struct_parts ht hx
  obtain ⟨y, h1, h2, h3⟩ := h H enc spare held n cs xs (by omega) hxs
  refine ⟨inv y, ?_, by show wf (g (inv y)); rw [hinv]; exact h2, by show wt (g (inv y)) + 1 ≤ _; rw [hinv]; simp only [uptoBulk]; omega⟩
  show K.K W (g (inv y)) cs
  rw [hinv]
  simpa using h1
end Go.Proofs.YtcnjnollmamifaaH
