/- Small laws on 'from some number of rounds on' and on wrapping, for the plain side. -/
import Derived.Test.YtcnjnollmamifaaWWords
set_option linter.unusedVariables false
set_option linter.unusedSimpArgs false
namespace Go.Proofs.YtcnjnollmamifaaH
open Go Go.RowKit Go.Proofs.YtcnjnollmamifaaW.PrintWords

theorem wrap_succ {x : Int} (h0 : -1 ≤ x) (h : x < 9223372036854775807) : wrap64 (x + 1) = x + 1 := by
  unfold wrap64; omega
theorem wrap_pred {x : Int} (h0 : -9223372036854775808 < x) (h : x ≤ 9223372036854775807) : wrap64 (x - 1) = x - 1 := by
  unfold wrap64; omega
theorem wrap_id {x : Int} (h0 : -9223372036854775808 ≤ x) (h : x ≤ 9223372036854775807) : wrap64 x = x := by
  unfold wrap64; omega
def wsum {α : Type} (wt : α → Nat) : List α → Nat
  | [] => 0
  | x :: r => wt x + wsum wt r
theorem wsum_append {α : Type} (wt : α → Nat) : ∀ l r : List α, wsum wt (l ++ r) = wsum wt l + wsum wt r
  | [], r => by simp [wsum]
  | x :: l, r => by simp only [List.cons_append, wsum, wsum_append wt l r]; omega
theorem wsum_mem {α : Type} (wt : α → Nat) {x : α} : ∀ {l : List α}, x ∈ l → wt x ≤ wsum wt l
  | y :: l, h => by
    simp only [wsum]
    rcases List.mem_cons.1 h with rfl | h
    · omega
    · have := wsum_mem wt h; omega
theorem wsum_length {α : Type} (wt : α → Nat) (h : ∀ x, 1 ≤ wt x) : ∀ l : List α, l.length ≤ wsum wt l
  | [] => by simp
  | x :: l => by have := h x; have := wsum_length wt h l; simp only [wsum, List.length_cons]; omega
end Go.Proofs.YtcnjnollmamifaaH
namespace Go.Proofs.YtcnjnollmamifaaW.PrintWords
theorem Ev.pos {α : Type} {c : Prop} [Decidable c] {g g' : Nat → Option α} {r : α} (h : c) (k : Ev g r) : Ev (fun n => if c then g n else g' n) r :=
  Ev.congr (fun _ => if_pos h) k
theorem Ev.neg {α : Type} {c : Prop} [Decidable c] {g g' : Nat → Option α} {r : α} (h : ¬ c) (k : Ev g' r) : Ev (fun n => if c then g n else g' n) r :=
  Ev.congr (fun _ => if_neg h) k
theorem Ev.ite {α : Type} {c : Prop} [Decidable c] {g g' : Nat → Option α} {r : α} (k : c → Ev g r) (k' : ¬ c → Ev g' r) : Ev (fun n => if c then g n else g' n) r := by
  by_cases h : c
  · exact Ev.pos h (k h)
  · exact Ev.neg h (k' h)
theorem Ev.eq {α : Type} {g : Nat → Option α} {r r' : α} (h : Ev g r) (e : r = r') : Ev g r' := e ▸ h
theorem Ev.det {α : Type} {g : Nat → Option α} {r r' : α} (h : Ev g r) (h' : Ev g r') : r = r' := by
  obtain ⟨K, h⟩ := h
  obtain ⟨K', h'⟩ := h'
  have e1 := h (max K K') (by omega)
  have e2 := h' (max K K') (by omega)
  rw [e1] at e2
  exact Option.some.inj e2
theorem Ev.const {α : Type} {g : Option α} {r : α} (h : g = some r) : Ev (fun _ => g) r := ⟨0, fun _ _ => h⟩
end Go.Proofs.YtcnjnollmamifaaW.PrintWords
