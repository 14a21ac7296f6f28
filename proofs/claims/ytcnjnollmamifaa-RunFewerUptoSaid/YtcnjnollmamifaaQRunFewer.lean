/- The plain law RunFewer. -/
import Derived.Test.YtcnjnollmamifaaQ22
import Derived.Test.YtcnjnollmamifaaQRunAwake
import Derived.Test.YtcnjnollmamifaaPLaw22RunFewer
namespace Go.Proofs.Ytcnjnollmamifaa.P
open Go.RowKit Go.Proofs.YtcnjnollmamifaaW.PrintWords Go.Proofs.YtcnjnollmamifaaW.PrintLast Go.Proofs.YtcnjnollmamifaaH

theorem RunFewer_pure (y0 : Hist × List Int × List Int) (y1 : Int) (hw0 : (∀ s ∈ y0.1, ∀ o ∈ s, True ∧ True ∧ (Lit.int .i64 o.f2).wf = true) ∧ (∀ x ∈ y0.2.1, (Lit.int .i64 x).wf = true) ∧ (∀ x ∈ y0.2.2, (Lit.int .i64 x).wf = true)) (hw1 : (Lit.int .u8 y1).wf = true)
    (hb : (wtHist y0.1 + 1 + ((wsum (fun _ => 1) y0.2.1 + 1) + (wsum (fun _ => 1) y0.2.2 + 1))) + 1 + 1 ≤ 1048576) : Ev (fun k => eyewitnesslaw22_RunFewer.f k y0.1 y0.2.1 y0.2.2 y1) true := by
  obtain ⟨h, l, kept⟩ := y0
  simp only at hw0 hb ⊢
  rw [wsum_one, wsum_one] at hb
  obtain ⟨b1, b2, b3⟩ := hist_bounds (h := h) (B := 1048576) (by omega)
  have hy1 : 0 ≤ y1 ∧ y1 ≤ 255 := by simpa [Lit.wf, IntKind.min, IntKind.max, IntKind.signed, IntKind.bits] using hw1
  have hj : ∀ b : Bool, (b = false → Small h 30) → Ev (fun k => eyewitnesslaw22_RunFewer.j0 k y1 b h l kept) true := by
    intro b hbs
    refine Ev.step (fun k => by rw [eyewitnesslaw22_RunFewer.j0]) (Ev.ite (fun _ => Ev.bind awake22_ev (Ev.now _)) (fun e => ?_))
    have hs := hbs (by simpa using e)
    refine Ev.bind (ref11_Of_ev h (by omega) (by omega) (fun o ho => by have := b3 o ho; omega)) ?_
    rcases facts_cases h with hf | ⟨_, _, hf⟩
    · rw [hf]; exact Ev.neg (by simp) (Ev.bind awake22_ev (Ev.now _))
    · rw [hf]
      have hlen := intern_len h
      have hok := intern_ok h
      have hsl := hs.2.1
      have ok : ∀ kp : List Int, (∀ x ∈ kp, iwf x) → kp.length ≤ 1048576 → runOk (internP h).2 (fromP (internP h).2) l kp := fun kp h1 h2 =>
        ⟨by omega, by omega, by omega, by simp [fromP], hw0.2.1, h1, fun x hx => (iwf_iff _).2 (by have := hok.2 x hx; have := hok.1; omega)⟩
      have hm : Int.tmod (wrap64 y1) (wrap64 ((kept.length : Int) + 1)) = y1 % ((kept.length : Int) + 1) := by
        rw [wrap_id (by omega) (by omega), wrap_id (by omega) (by omega), Int.tmod_eq_emod_of_nonneg (by omega)]
      have hm0 : 0 ≤ y1 % ((kept.length : Int) + 1) := Int.emod_nonneg _ (by omega)
      have hm1 : y1 % ((kept.length : Int) + 1) < (kept.length : Int) + 1 := Int.emod_lt_of_pos _ (by omega)
      refine Ev.pos rfl (Ev.neg (by rw [wrap_id (by omega) (by omega)]; omega) ?_)
      simp only [hm, run_Legal.f]
      rw [if_pos (ok kept hw0.2.2 (by omega)), if_pos (ok [] (by simp) (by simp)), if_pos (ok (kept.take _) (fun x hx => hw0.2.2 x (List.mem_of_mem_take hx)) (by rw [List.length_take]; omega))]
      refine Ev.bind (Ev.now _) (Ev.pos hm0 (Ev.pos (by omega) (Ev.bind (Ev.now _) (Ev.bind (Ev.now _) (Ev.bind awake22_ev (Ev.pos rfl ?_))))))
      have s1 : legalP (internP h).2 (fromP (internP h).2) l kept → legalP (internP h).2 (fromP (internP h).2) l (kept.take (y1 % ((kept.length : Int) + 1)).toNat) := legal_sub (fun i hi => List.mem_of_mem_take hi)
      have s2 : legalP (internP h).2 (fromP (internP h).2) l (kept.take (y1 % ((kept.length : Int) + 1)).toNat) → legalP (internP h).2 (fromP (internP h).2) l [] := legal_sub (fun i hi => by simp at hi)
      refine Ev.ite (fun e1 => ?_) (fun _ => Ev.ite (fun e2 => (Ev.now _).eq ?_) (fun _ => Ev.now _))
      · have := s1 (by simpa using e1)
        refine Ev.pos (by simpa using this) ((Ev.now _).eq ?_)
        simpa using s2 this
      · simpa using s2 (by simpa using e2)
  unfold eyewitnesslaw22_RunFewer.f
  refine Ev.bind (ref06_Small_ev h 30 (by omega) (by omega)) (Ev.ite (fun e1 => Ev.ite (fun _ => hj true (by simp)) (fun _ => hj _ (fun _ => by simpa using e1))) (fun _ => hj true (by simp)))
end Go.Proofs.Ytcnjnollmamifaa.P
