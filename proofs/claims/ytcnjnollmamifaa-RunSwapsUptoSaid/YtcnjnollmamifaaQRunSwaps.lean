/- The plain law RunSwaps. -/
import Derived.Test.YtcnjnollmamifaaQ22
import Derived.Test.YtcnjnollmamifaaQRunAwake
import Derived.Test.YtcnjnollmamifaaPLaw22RunSwaps
set_option linter.unusedVariables false
set_option linter.unusedSimpArgs false
namespace Go.Proofs.Ytcnjnollmamifaa.P
open Go.RowKit Go.Proofs.YtcnjnollmamifaaW.PrintWords Go.Proofs.YtcnjnollmamifaaW.PrintLast Go.Proofs.YtcnjnollmamifaaH

theorem split_two (l : List Int) (m : Nat) (h : m + 1 < l.length) : l = l.take m ++ l[m] :: l[m + 1] :: l.drop (m + 2) := by
  have e1 : l.drop m = l[m] :: l.drop (m + 1) := List.drop_eq_getElem_cons (by omega)
  have e2 : l.drop (m + 1) = l[m + 1] :: l.drop (m + 1 + 1) := List.drop_eq_getElem_cons (by omega)
  rw [← e2, ← e1, List.take_append_drop]
theorem set_two (l : List Int) (m : Nat) (h : m + 1 < l.length) (a b : Int) : (l.set m b).set (m + 1) a = l.take m ++ b :: a :: l.drop (m + 2) := by
  apply List.ext_getElem?
  intro i
  have hm : (l.take m).length = m := by rw [List.length_take]; omega
  by_cases h1 : i < m
  · rw [List.getElem?_set_ne (by omega), List.getElem?_set_ne (by omega), List.getElem?_append_left (by omega), List.getElem?_take_of_lt h1]
  · rw [List.getElem?_append_right (by omega), hm]
    have h3 : i = m ∨ i = m + 1 ∨ ∃ j, i = m + 2 + j := by
      by_cases h1 : i = m
      · exact .inl h1
      · by_cases h2 : i = m + 1
        · exact .inr (.inl h2)
        · exact .inr (.inr ⟨i - (m + 2), by omega⟩)
    rcases h3 with rfl | rfl | ⟨j, rfl⟩
    · rw [List.getElem?_set_ne (by omega), List.getElem?_set_self (by omega)]
      simp
    · rw [List.getElem?_set_self (by simp; omega)]
      simp
    · rw [List.getElem?_set_ne (by omega), List.getElem?_set_ne (by omega), show m + 2 + j - m = j + 1 + 1 by omega, List.getElem?_cons_succ, List.getElem?_cons_succ, List.getElem?_drop]
theorem rd_get (l : List Int) (m : Nat) (h : m < l.length) : rd l m = l[m] := by simp [rd, h]
theorem swaps_j1 (h : Hist) (l kept : List Int) (vars : List ByteArray) (items : List Item) (from_ : List Int) (m : Nat) (b : Bool) (hm : m + 1 < l.length) (hl : l.length ≤ 1048576) (hok : b = false → runOk items from_ l kept)
    (hb : b = false → (0 ≤ rd l m ∧ rd l m < items.length) ∧ (0 ≤ rd l (m + 1) ∧ rd l (m + 1) < items.length) ∧ (rd_T40 items (rd l m)).f3 ≠ (rd_T40 items (rd l (m + 1))).f3) :
    Ev (fun k => eyewitnesslaw22_RunSwaps.j1 k m (rd l m) (rd l (m + 1)) b h l kept vars items from_) true := by
  refine Ev.step (fun k => by rw [eyewitnesslaw22_RunSwaps.j1]) (Ev.ite (fun _ => Ev.bind awake22_ev (Ev.now _)) (fun e => ?_))
  have e' : b = false := by simpa using e
  obtain ⟨h1, h2, h3⟩ := hb e'
  have ok := hok e'
  have w1 : wrap64 ((m : Int) + 1) = ((m + 1 : Nat) : Int) := wrap_succ (by omega) (by omega)
  have r1 : rd l ((m : Int) + 1) = l[m + 1] := rd_get l (m + 1) hm
  rw [r1] at h2 h3 ⊢
  rw [rd_get l m (by omega)] at h1 h3 ⊢
  refine Ev.bind (Ev.now _) (Ev.pos (by simp; omega) (Ev.bind (Ev.now _) (Ev.pos (by omega) (Ev.pos (by simp; omega) (Ev.pos (by rw [w1]; omega) (Ev.pos (by rw [w1]; simp; omega) ?_))))))
  rw [w1, Int.toNat_natCast, Int.toNat_natCast, List.nil_append, set_two l m hm]
  have hs := split_two l m hm
  have ok2 : runOk items from_ (l.take m ++ l[m + 1] :: l[m] :: l.drop (m + 2)) kept := by
    have hp : (l.take m ++ l[m + 1] :: l[m] :: l.drop (m + 2)).Perm l := by
      have := List.Perm.append_left (l.take m) (List.Perm.swap l[m] l[m + 1] (l.drop (m + 2)))
      rw [← hs] at this
      exact this
    obtain ⟨o1, o2, o3, o4, o5, o6, o7⟩ := ok
    exact ⟨o1, by rw [hp.length_eq]; exact o2, o3, o4, fun x hx => o5 x (hp.mem_iff.1 hx), o6, o7⟩
  refine Ev.bind awake22_ev (Ev.pos rfl ?_)
  rw [run_Legal.f, if_pos ok, run_Legal.f, if_pos ok2]
  refine Ev.bind (Ev.now _) (Ev.bind (Ev.now _) ((Ev.now _).eq ?_))
  rw [beq_iff_eq]
  have := legal_swap (items := items) (from_ := from_) (kept := kept) (p := l.take m) (q := l.drop (m + 2)) (a := l[m]) (b := l[m + 1]) h3 h1 h2
  rw [← hs] at this
  rw [Bool.eq_iff_iff, decide_eq_true_iff, decide_eq_true_iff]
  exact this
theorem RunSwaps_pure (y0 : Hist × List Int × List Int) (y1 : Int) (hw0 : (∀ s ∈ y0.1, ∀ o ∈ s, True ∧ True ∧ (Lit.int .i64 o.f2).wf = true) ∧ (∀ x ∈ y0.2.1, (Lit.int .i64 x).wf = true) ∧ (∀ x ∈ y0.2.2, (Lit.int .i64 x).wf = true)) (hw1 : (Lit.int .u8 y1).wf = true)
    (hb : (wtHist y0.1 + 1 + ((wsum (fun _ => 1) y0.2.1 + 1) + (wsum (fun _ => 1) y0.2.2 + 1))) + 1 + 1 ≤ 1048576) : Ev (fun k => eyewitnesslaw22_RunSwaps.f k y0.1 y0.2.1 y0.2.2 y1) true := by
  obtain ⟨h, l, kept⟩ := y0
  simp only at hw0 hb ⊢
  rw [wsum_one, wsum_one] at hb
  obtain ⟨b1, b2, b3⟩ := hist_bounds (h := h) (B := 1048576) (by omega)
  have hy1 : 0 ≤ y1 ∧ y1 ≤ 255 := by simpa [Lit.wf, IntKind.min, IntKind.max, IntKind.signed, IntKind.bits] using hw1
  have hj : ∀ b : Bool, (b = false → Small h 30 ∧ 2 ≤ l.length) → Ev (fun k => eyewitnesslaw22_RunSwaps.j0 k y1 b h l kept) true := by
    intro b hbs
    refine Ev.step (fun k => by rw [eyewitnesslaw22_RunSwaps.j0]) (Ev.ite (fun _ => Ev.bind awake22_ev (Ev.now _)) (fun e => ?_))
    obtain ⟨hs, hl2⟩ := hbs (by simpa using e)
    refine Ev.bind (ref11_Of_ev h (by omega) (by omega) (fun o ho => by have := b3 o ho; omega)) ?_
    have hm : Int.tmod (wrap64 y1) (wrap64 ((l.length : Int) - 1)) = y1 % ((l.length : Int) - 1) := by
      rw [wrap_id (by omega) (by omega), wrap_id (by omega) (by omega), Int.tmod_eq_emod_of_nonneg (by omega)]
    have hm0 : 0 ≤ y1 % ((l.length : Int) - 1) := Int.emod_nonneg _ (by omega)
    have hm1 : y1 % ((l.length : Int) - 1) < (l.length : Int) - 1 := Int.emod_lt_of_pos _ (by omega)
    obtain ⟨m, hme⟩ : ∃ m : Nat, (m : Int) = y1 % ((l.length : Int) - 1) := ⟨(y1 % ((l.length : Int) - 1)).toNat, by omega⟩
    rw [← hme] at hm hm0 hm1
    have w1 : wrap64 ((m : Int) + 1) = (m : Int) + 1 := wrap_succ (by omega) (by omega)
    simp only [hm, w1]
    refine Ev.neg (by rw [wrap_id (by omega) (by omega)]; omega) (Ev.pos hm0 (Ev.pos (by omega) (Ev.pos (by omega) (Ev.pos (by omega) ?_))))
    have yes : ∀ (vars : List ByteArray) (items : List Item) (from_ : List Int), Ev (fun k => eyewitnesslaw22_RunSwaps.j1 k m (rd l m) (rd l (m + 1)) true h l kept vars items from_) true :=
      fun vars items from_ => swaps_j1 h l kept vars items from_ m true (by omega) (by omega) (by simp) (by simp)
    rcases facts_cases h with hf | ⟨_, _, hf⟩
    · rw [hf]; exact Ev.neg (by simp) (yes _ _ _)
    · rw [hf]
      have hlen := intern_len h
      have hok := intern_ok h
      have hsl := hs.2.1
      have ok : runOk (internP h).2 (fromP (internP h).2) l kept :=
        ⟨by omega, by omega, by omega, by simp [fromP], hw0.2.1, hw0.2.2, fun x hx => (iwf_iff _).2 (by have := hok.2 x hx; have := hok.1; omega)⟩
      refine Ev.pos rfl (Ev.ite (fun _ => yes _ _ _) (fun c1 => Ev.ite (fun _ => yes _ _ _) (fun c2 => Ev.ite (fun _ => yes _ _ _) (fun c3 => Ev.ite (fun _ => yes _ _ _) (fun c4 => Ev.pos (by omega) (Ev.pos (by omega) (Ev.pos (by omega) (Ev.pos (by omega) ?_))))))))
      exact swaps_j1 h l kept _ _ _ m _ (by omega) (by omega) (fun _ => ok) (fun e => ⟨⟨by omega, by omega⟩, ⟨by omega, by omega⟩, by simpa using e⟩)
  unfold eyewitnesslaw22_RunSwaps.f
  refine Ev.bind (ref06_Small_ev h 30 (by omega) (by omega)) (Ev.ite (fun e1 => Ev.ite (fun _ => hj true (by simp)) (fun _ => Ev.ite (fun _ => hj true (by simp)) (fun _ => hj _ (fun h2 => ⟨by simpa using e1, by simp at h2; omega⟩)))) (fun _ => hj true (by simp)))
end Go.Proofs.Ytcnjnollmamifaa.P
