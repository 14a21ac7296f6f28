/- What the reference's functions of layer 6 come to. -/
import Derived.Test.YtcnjnollmamifaaPRef06Right
import Derived.Test.YtcnjnollmamifaaPRef06Small
import Derived.Test.YtcnjnollmamifaaHEv
set_option linter.unusedVariables false
set_option linter.unusedSimpArgs false
namespace Go.Proofs.Ytcnjnollmamifaa.P
open Go.RowKit Go.Proofs.YtcnjnollmamifaaW.PrintWords Go.Proofs.YtcnjnollmamifaaW.PrintLast Go.Proofs.YtcnjnollmamifaaH

abbrev Op := S45
abbrev Hist := List (List Op)
def wtOp (o : Op) : Nat := 1 + ((o.f1.size + 1) + 1) + 1
def wtHist (h : Hist) : Nat := wsum (fun s => wsum wtOp s + 1) h
theorem hist_flat (h : Hist) : wsum wtOp h.flatten ≤ wtHist h := by
  unfold wtHist
  induction h with
  | nil => simp [wsum]
  | cons s r ih => simp only [List.flatten_cons, wsum_append, wsum]; omega
theorem hist_bounds {h : Hist} {B : Nat} (hb : wtHist h ≤ B) : h.length ≤ B ∧ h.flatten.length ≤ B ∧ ∀ o ∈ h.flatten, o.f1.size ≤ B := by
  have h1 := hist_flat h
  have h2 : h.length ≤ wtHist h := wsum_length _ (fun _ => by omega) h
  have h3 := wsum_length wtOp (fun o => by unfold wtOp; omega) h.flatten
  refine ⟨by omega, by omega, fun o ho => ?_⟩
  have := wsum_mem wtOp ho
  unfold wtOp at this h1
  omega
theorem wsum_one {α : Type} (l : List α) : wsum (fun _ => 1) l = l.length := by
  induction l with
  | nil => rfl
  | cons a l ih => simp only [wsum, ih, List.length_cons]; omega
theorem rdL_eq (h : Hist) (x : Nat) (hx : x < h.length) : rd_L4 h x = h[x] := by
  simp [rd_L4, hx]
theorem rdOp_eq (l : List Op) (x : Nat) (hx : x < l.length) : rd_T45 l x = l[x] := by
  simp [rd_T45, hx]
theorem flat_from (h : Hist) (hl : h.length ≤ 9223372036854775807) : ∀ d x acc, d + x = h.length → acc.length + (h.drop x).flatten.length < 4398046511104 →
    Ev (fun k => eyewitnessref06_Flat.l0 k h acc x) (acc ++ (h.drop x).flatten) := by
  intro d
  induction d with
  | zero =>
    intro x acc hd _
    refine Ev.step (fun k => by rw [eyewitnessref06_Flat.l0]) (Ev.neg (by omega) ?_)
    rw [List.drop_of_length_le (by omega)]
    simpa using Ev.now acc
  | succ d ih =>
    intro x acc hd hb
    have hx : x < h.length := by omega
    have e : h.drop x = h[x] :: h.drop (x + 1) := List.drop_eq_getElem_cons hx
    rw [e, List.flatten_cons, List.length_append] at hb
    refine Ev.step (fun k => by rw [eyewitnessref06_Flat.l0]) (Ev.pos (by omega) (Ev.pos (by omega) (Ev.pos ?_ ?_)))
    · rw [rdL_eq h x hx]; omega
    · rw [rdL_eq h x hx, wrap_succ (by omega) (by omega), e, List.flatten_cons, ← List.append_assoc]
      exact ih (x + 1) _ (by omega) (by rw [List.length_append]; omega)
theorem ref06_Flat_ev (h : Hist) (hl : h.length ≤ 9223372036854775807) (hb : h.flatten.length < 4398046511104) : Ev (fun k => eyewitnessref06_Flat.f k h) h.flatten := by
  have := flat_from h hl h.length 0 [] (by omega) (by simpa using hb)
  simpa [eyewitnessref06_Flat.f] using this
theorem ref06_Count_ev (h : Hist) (hl : h.length ≤ 9223372036854775807) (hb : h.flatten.length < 4398046511104) : Ev (fun k => eyewitnessref06_Count.f k h) (h.flatten.length : Int) :=
  Ev.bind (ref06_Flat_ev h hl hb) (Ev.now _)
/-- A history is small: few sessions, few operations, short names. -/
def Small (h : Hist) (most : Int) : Prop := (h.length : Int) ≤ most ∧ (h.flatten.length : Int) ≤ most ∧ ∀ o ∈ h.flatten, o.f1.size ≤ 20
instance (h : Hist) (most : Int) : Decidable (Small h most) := inferInstanceAs (Decidable (_ ∧ _ ∧ _))
theorem small_l0 (l : List Op) (hl : l.length ≤ 9223372036854775807) : ∀ d (x : Nat), d + x = l.length → Ev (fun k => eyewitnessref06_Small.l0 k l x) (decide (∀ o ∈ l.drop x, o.f1.size ≤ 20)) := by
  intro d
  induction d with
  | zero =>
    intro x hd
    refine Ev.step (fun k => by rw [eyewitnessref06_Small.l0]) (Ev.neg (by omega) ?_)
    rw [List.drop_of_length_le (by omega)]
    simpa using Ev.now true
  | succ d ih =>
    intro x hd
    have hx : x < l.length := by omega
    have e : l.drop x = l[x] :: l.drop (x + 1) := List.drop_eq_getElem_cons hx
    refine Ev.step (fun k => by rw [eyewitnessref06_Small.l0]) (Ev.pos (by omega) (Ev.pos (by omega) (Ev.ite (fun h => ?_) (fun h => ?_))))
    · rw [rdOp_eq l x hx] at h
      refine (Ev.now false).eq ?_
      rw [e]
      symm
      rw [decide_eq_false_iff_not]
      intro hall
      have := hall _ List.mem_cons_self
      omega
    · rw [rdOp_eq l x hx] at h
      rw [wrap_succ (by omega) (by omega)]
      refine (ih (x + 1) (by omega)).eq ?_
      rw [e]
      congr 1
      simp only [List.forall_mem_cons, eq_iff_iff]
      constructor
      · intro h'; exact ⟨by omega, h'⟩
      · exact fun h' => h'.2
theorem ref06_Small_ev (h : Hist) (a : Int) (hl : h.length ≤ 9223372036854775807) (hb : h.flatten.length < 4398046511104) : Ev (fun k => eyewitnessref06_Small.f k h a) (decide (Small h a)) := by
  have hj : ∀ b : Bool, Ev (fun k => eyewitnessref06_Small.j0 k h b) (if b = true then false else decide (∀ o ∈ h.flatten, o.f1.size ≤ 20)) := by
    intro b
    refine Ev.step (fun k => by rw [eyewitnessref06_Small.j0]) (Ev.ite (fun e => by rw [if_pos e]; exact Ev.now _) (fun e => ?_))
    rw [if_neg e]
    refine Ev.bind (ref06_Flat_ev h hl hb) ?_
    exact small_l0 h.flatten (by omega) h.flatten.length 0 (by omega)
  unfold eyewitnessref06_Small.f
  refine Ev.ite (fun e => (hj true).eq ?_) (fun e => Ev.bind (ref06_Count_ev h hl hb) ((hj _).eq ?_))
  · symm
    rw [if_pos rfl, decide_eq_false_iff_not]
    intro h'; have := h'.1; omega
  · by_cases h2 : (h.flatten.length : Int) > a
    · rw [if_pos (by simpa using h2)]
      symm
      rw [decide_eq_false_iff_not]
      intro h'; have := h'.2.1; omega
    · rw [if_neg (by simpa using h2)]
      congr 1
      simp only [eq_iff_iff, Small]
      constructor
      · intro h3; exact ⟨by omega, by omega, h3⟩
      · exact fun h3 => h3.2.2
/-- A name may be. -/
def NameOk (s : ByteArray) : Prop := 1 ≤ s.size ∧ s.size ≤ 8 ∧ ∀ i : Nat, i < s.size → 97 ≤ bt s i ∧ bt s i ≤ 122
instance (s : ByteArray) : Decidable (NameOk s) := by unfold NameOk; infer_instance
theorem name_l0 (s : ByteArray) (hs : s.size ≤ 9223372036854775807) : ∀ d (x : Nat), d + x = s.size → ∃ b : Bool, Ev (fun k => eyewitnessref06_Name.l0 k s x) b ∧ (b = true ↔ (∀ i : Nat, x ≤ i → i < s.size → 97 ≤ bt s i ∧ bt s i ≤ 122) ∧ 1 ≤ s.size ∧ s.size ≤ 8) := by
  intro d
  induction d with
  | zero =>
    intro x hd
    refine ⟨decide (1 ≤ s.size ∧ s.size ≤ 8), Ev.step (fun k => by rw [eyewitnessref06_Name.l0]) (Ev.neg (by omega) (Ev.ite (fun h => (Ev.now _).eq ?_) (fun h => (Ev.now _).eq ?_))), ?_⟩
    · congr 1
      simp only [eq_iff_iff]
      omega
    · symm
      rw [decide_eq_false_iff_not]
      omega
    · rw [decide_eq_true_iff]
      exact ⟨fun h => ⟨fun i h1 h2 => by omega, h⟩, fun h => h.2⟩
  | succ d ih =>
    intro x hd
    have hx : x < s.size := by omega
    by_cases h1 : bt s x < 97
    · exact ⟨false, Ev.step (fun k => by rw [eyewitnessref06_Name.l0]) (Ev.pos (by omega) (Ev.pos (by omega) (Ev.pos h1 (Ev.now _)))), by
        simp only [Bool.false_eq_true, false_iff]
        intro h; have := h.1 x (Nat.le_refl _) hx; omega⟩
    by_cases h2 : bt s x > 122
    · exact ⟨false, Ev.step (fun k => by rw [eyewitnessref06_Name.l0]) (Ev.pos (by omega) (Ev.pos (by omega) (Ev.neg h1 (Ev.pos h2 (Ev.now _))))), by
        simp only [Bool.false_eq_true, false_iff]
        intro h; have := h.1 x (Nat.le_refl _) hx; omega⟩
    obtain ⟨b, hb, hiff⟩ := ih (x + 1) (by omega)
    refine ⟨b, Ev.step (fun k => by rw [eyewitnessref06_Name.l0]) (Ev.pos (by omega) (Ev.pos (by omega) (Ev.neg h1 (Ev.neg h2 ?_)))), hiff.trans ⟨fun ⟨h3, h4⟩ => ⟨fun i hi hi' => ?_, h4⟩, fun ⟨h3, h4⟩ => ⟨fun i hi hi' => h3 i (by omega) hi', h4⟩⟩⟩
    · rw [wrap_succ (by omega) (by omega)]
      exact hb
    · rcases Nat.eq_or_lt_of_le hi with rfl | hi
      · omega
      · exact h3 i hi hi'
theorem ref06_Name_ev (s : ByteArray) (hs : s.size ≤ 9223372036854775807) : Ev (fun k => eyewitnessref06_Name.f k s) (decide (NameOk s)) := by
  obtain ⟨b, hb, hiff⟩ := name_l0 s hs s.size 0 (by omega)
  refine Ev.eq hb ?_
  rw [Bool.eq_iff_iff, hiff, decide_eq_true_iff, NameOk]
  exact ⟨fun ⟨h1, h2, h3⟩ => ⟨h2, h3, fun i hi => h1 i (by omega) hi⟩, fun ⟨h1, h2, h3⟩ => ⟨fun i _ hi => h3 i hi, h1, h2⟩⟩
/-- A history may be. -/
def RightOk (h : Hist) : Prop := h.flatten.length ≤ 4096 ∧ ∀ o ∈ h.flatten, NameOk o.f1
instance (h : Hist) : Decidable (RightOk h) := inferInstanceAs (Decidable (_ ∧ _))
theorem right_l0 (l : List Op) (hl : l.length ≤ 9223372036854775807) (hs : ∀ o ∈ l, o.f1.size ≤ 9223372036854775807) : ∀ d (x : Nat), d + x = l.length →
    Ev (fun k => eyewitnessref06_Right.l0 k l x) (decide ((∀ o ∈ l.drop x, NameOk o.f1) ∧ l.length ≤ 4096)) := by
  intro d
  induction d with
  | zero =>
    intro x hd
    refine Ev.step (fun k => by rw [eyewitnessref06_Right.l0]) (Ev.neg (by omega) ((Ev.now _).eq ?_))
    rw [List.drop_of_length_le (by omega)]
    congr 1
    simp
    omega
  | succ d ih =>
    intro x hd
    have hx : x < l.length := by omega
    have e : l.drop x = l[x] :: l.drop (x + 1) := List.drop_eq_getElem_cons hx
    refine Ev.step (fun k => by rw [eyewitnessref06_Right.l0]) (Ev.pos (by omega) (Ev.pos (by omega) ?_))
    rw [rdOp_eq l x hx]
    refine Ev.bind (ref06_Name_ev _ (hs _ (List.getElem_mem hx))) (Ev.ite (fun h => ?_) (fun h => (Ev.now _).eq ?_))
    · rw [wrap_succ (by omega) (by omega)]
      refine (ih (x + 1) (by omega)).eq ?_
      rw [e]
      congr 1
      have h' : NameOk l[x].f1 := by simpa using h
      simp only [List.forall_mem_cons, eq_iff_iff]
      simp [h']
    · symm
      rw [decide_eq_false_iff_not, e]
      intro h'
      exact h (by simpa using h'.1 _ List.mem_cons_self)
theorem ref06_Right_ev (h : Hist) (hl : h.length ≤ 9223372036854775807) (hb : h.flatten.length < 4398046511104) (hs : ∀ o ∈ h.flatten, o.f1.size ≤ 9223372036854775807) : Ev (fun k => eyewitnessref06_Right.f k h) (decide (RightOk h)) := by
  unfold eyewitnessref06_Right.f
  refine Ev.bind (ref06_Flat_ev h hl hb) ((right_l0 h.flatten (by omega) hs h.flatten.length 0 (by omega)).eq ?_)
  congr 1
  simp only [eq_iff_iff, RightOk, List.drop_zero]
  exact And.comm
end Go.Proofs.Ytcnjnollmamifaa.P
