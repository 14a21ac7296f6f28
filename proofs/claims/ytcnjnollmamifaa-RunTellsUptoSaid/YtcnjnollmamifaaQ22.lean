/- The plain laws of runs. -/
import Derived.Test.YtcnjnollmamifaaQ09
import Derived.Test.YtcnjnollmamifaaSRun
set_option linter.unusedVariables false
set_option linter.unusedSimpArgs false
namespace Go.Proofs.Ytcnjnollmamifaa.P
open Go.RowKit Go.Proofs.YtcnjnollmamifaaW.PrintWords Go.Proofs.YtcnjnollmamifaaW.PrintLast Go.Proofs.YtcnjnollmamifaaH

theorem wrong_sub (items : List Item) (from_ kept kept' : List Int) (hs : ∀ i ∈ kept', i ∈ kept) : ∀ (l : List Int) (k : Int) (g : Int → Option Int), (wrongP items from_ kept l k g).2 = false → (wrongP items from_ kept' l k g).2 = false
  | [], _, _, _ => rfl
  | i :: r, k, g, h => by
    unfold wrongP at h ⊢
    by_cases c1 : i < 0 ∨ (items.length : Int) ≤ i
    · rw [if_pos c1] at h ⊢
      exact wrong_sub items from_ kept kept' hs r _ _ h
    · rw [if_neg c1] at h ⊢
      by_cases c2 : (rd_T40 items i).f2 = true
      · rw [if_pos c2] at h ⊢
        exact wrong_sub items from_ kept kept' hs r _ _ h
      · rw [if_neg c2] at h ⊢
        by_cases c3 : i ∈ kept ∧ rd from_ i ≠ (g (rd_T40 items i).f3).getD (-1)
        · rw [if_pos c3] at h; simp at h
        · rw [if_neg c3] at h
          rw [if_neg (fun c => c3 ⟨hs i c.1, c.2⟩)]
          exact wrong_sub items from_ kept kept' hs r _ _ h
theorem legal_sub {items : List Item} {from_ l kept kept' : List Int} (hs : ∀ i ∈ kept', i ∈ kept) (h : legalP items from_ l kept) : legalP items from_ l kept' :=
  ⟨h.1, h.2.1, fun i hi => h.2.2.1 i (hs i hi), wrong_sub items from_ kept kept' hs l _ _ h.2.2.2⟩
/-- The place that is told counts for nothing here. -/
theorem wrong_place (items : List Item) (from_ kept : List Int) : ∀ (l : List Int) (k k' : Int) (g : Int → Option Int), (wrongP items from_ kept l k g).2 = (wrongP items from_ kept l k' g).2
  | [], _, _, _ => rfl
  | i :: r, k, k', g => by
    unfold wrongP
    split
    · exact wrong_place items from_ kept r _ _ _
    · split
      · exact wrong_place items from_ kept r _ _ _
      · split
        · rfl
        · exact wrong_place items from_ kept r _ _ _
theorem upd_comm (g : Int → Option Int) {x y : Int} (h : x ≠ y) (a b : Int) : upd (upd g x a) y b = upd (upd g y b) x a := by
  funext z
  simp only [upd]
  by_cases h1 : z = x <;> by_cases h2 : z = y <;> simp_all
/-- Two neighbours of unlike variables change places. -/
theorem wrong_swap (items : List Item) (from_ kept : List Int) (a b : Int) (q : List Int) (ha : 0 ≤ a ∧ a < items.length) (hb : 0 ≤ b ∧ b < items.length) (hv : (rd_T40 items a).f3 ≠ (rd_T40 items b).f3) (k : Int) (g : Int → Option Int) :
    (wrongP items from_ kept (a :: b :: q) k g).2 = (wrongP items from_ kept (b :: a :: q) k g).2 := by
  have ha' : ¬ (a < 0 ∨ (items.length : Int) ≤ a) := by omega
  have hb' : ¬ (b < 0 ∨ (items.length : Int) ≤ b) := by omega
  have e1 : ∀ u, upd g (rd_T40 items a).f3 u (rd_T40 items b).f3 = g (rd_T40 items b).f3 := fun u => by simp [upd, Ne.symm hv]
  have e2 : ∀ u, upd g (rd_T40 items b).f3 u (rd_T40 items a).f3 = g (rd_T40 items a).f3 := fun u => by simp [upd, hv]
  simp only [wrongP, if_neg ha', if_neg hb', e1, e2]
  rw [upd_comm g hv a b]
  split <;> split <;> (try split) <;> (try split) <;> first | rfl | exact wrong_place _ _ _ _ _ _ _
theorem wrong_swap_in (items : List Item) (from_ kept : List Int) (a b : Int) (q : List Int) (ha : 0 ≤ a ∧ a < items.length) (hb : 0 ≤ b ∧ b < items.length) (hv : (rd_T40 items a).f3 ≠ (rd_T40 items b).f3) :
    ∀ (p : List Int) (k : Int) (g : Int → Option Int), (wrongP items from_ kept (p ++ a :: b :: q) k g).2 = (wrongP items from_ kept (p ++ b :: a :: q) k g).2
  | [], k, g => wrong_swap items from_ kept a b q ha hb hv k g
  | i :: p, k, g => by
    simp only [List.cons_append, wrongP]
    split
    · exact wrong_swap_in items from_ kept a b q ha hb hv p _ _
    · split
      · exact wrong_swap_in items from_ kept a b q ha hb hv p _ _
      · split
        · rfl
        · exact wrong_swap_in items from_ kept a b q ha hb hv p _ _
theorem legal_swap {items : List Item} {from_ kept p q : List Int} {a b : Int} (hv : (rd_T40 items a).f3 ≠ (rd_T40 items b).f3) (ha : 0 ≤ a ∧ a < items.length) (hb : 0 ≤ b ∧ b < items.length) :
    legalP items from_ (p ++ a :: b :: q) kept ↔ legalP items from_ (p ++ b :: a :: q) kept := by
  have hp : (p ++ a :: b :: q).Perm (p ++ b :: a :: q) := List.Perm.append_left p (List.Perm.swap _ _ _)
  unfold legalP
  rw [wrong_swap_in items from_ kept a b q ha hb hv p, hp.nodup_iff]
  simp only [hp.mem_iff]
end Go.Proofs.Ytcnjnollmamifaa.P
