/- The plain law RunTells. -/
import Derived.Test.YtcnjnollmamifaaQ22
import Derived.Test.YtcnjnollmamifaaQRunAwake
import Derived.Test.YtcnjnollmamifaaPLaw22RunTells
set_option linter.unusedVariables false
set_option linter.unusedSimpArgs false
namespace Go.Proofs.Ytcnjnollmamifaa.P
open Go.RowKit Go.Proofs.YtcnjnollmamifaaW.PrintWords Go.Proofs.YtcnjnollmamifaaW.PrintLast Go.Proofs.YtcnjnollmamifaaH

theorem rd_nat (l : List Int) (m : Nat) (h : m < l.length) : rd l m = l[m] := by simp [rd, h]
theorem ref22_has_l0 (l : List Int) (n : Int) (hl : l.length ≤ 9223372036854775807) : ∀ d (x : Nat), d + x = l.length → Ev (fun k => eyewitnessref22_has.l0 k l n x) (decide (n ∈ l.drop x)) := by
  intro d
  induction d with
  | zero =>
    intro x hd
    refine Ev.step (fun k => by rw [eyewitnessref22_has.l0]) (Ev.neg (by omega) ((Ev.now _).eq ?_))
    rw [List.drop_of_length_le (by omega)]
    simp
  | succ d ih =>
    intro x hd
    have hx : x < l.length := by omega
    have e : l.drop x = l[x] :: l.drop (x + 1) := List.drop_eq_getElem_cons hx
    refine Ev.step (fun k => by rw [eyewitnessref22_has.l0]) (Ev.pos (by omega) (Ev.pos (by omega) ?_))
    rw [rd_nat l x hx, wrap_succ (by omega) (by omega), e]
    refine Ev.ite (fun h => (Ev.now _).eq ?_) (fun h => (ih (x + 1) (by omega)).eq ?_)
    · simp [h]
    · simp only [List.mem_cons, Ne.symm h, false_or]
theorem ref22_has_ev (l : List Int) (n : Int) (hl : l.length ≤ 9223372036854775807) : Ev (fun k => eyewitnessref22_has.f k l n) (decide (n ∈ l)) := ref22_has_l0 l n hl l.length 0 (by omega)
/-- Is it an item's number? -/
theorem ref22_item_eq (vars : List ByteArray) (items : List Item) (from_ : List Int) (i : Int) : eyewitnessref22_item.f vars items from_ i = some (decide (0 ≤ i ∧ i < items.length)) := by
  unfold eyewitnessref22_item.f
  by_cases h : i ≥ 0
  · rw [if_pos h]; congr 2; simp; omega
  · rw [if_neg h]; congr 1; symm; rw [decide_eq_false_iff_not]; omega
/-- The last write to a variable: what 'wrote' holds behind a run. -/
def stepG (items : List Item) (g : Int → Option Int) (i : Int) : Int → Option Int :=
  if i < 0 ∨ (items.length : Int) ≤ i then g else if (rd_T40 items i).f2 = true then upd g (rd_T40 items i).f3 i else g
def runG (items : List Item) (l : List Int) : Int → Option Int := l.foldl (stepG items) (fun _ => none)
theorem runG_snoc (items : List Item) (l : List Int) (i : Int) : runG items (l ++ [i]) = stepG items (runG items l) i := by simp [runG, List.foldl_append]
theorem last_ev (vars : List ByteArray) (items : List Item) (from_ l : List Int) (v : Int) (hl : l.length ≤ 9223372036854775807) : ∀ x : Nat, x ≤ l.length → (∀ i (h : i < l.length), x ≤ i → ¬ ((0 ≤ l[i] ∧ l[i] < items.length) ∧ (rd_T40 items l[i]).f2 = true ∧ (rd_T40 items l[i]).f3 = v)) →
    Ev (fun k => eyewitnessref22_last.l0 k l v ((x : Int) - 1) vars items from_) ((runG items (l.take x) v).getD (-1)) := by
  intro x
  induction x with
  | zero =>
    intro _ _
    exact Ev.step (fun k => by rw [eyewitnessref22_last.l0]) (Ev.neg (by omega) ((Ev.now _).eq (by simp [runG])))
  | succ x ih =>
    intro hx hn
    have hx' : x < l.length := by omega
    rw [show ((x + 1 : Nat) : Int) - 1 = (x : Int) by omega]
    have et : l.take (x + 1) = l.take x ++ [l[x]] := by rw [List.take_succ_eq_append_getElem hx']
    have next : ¬ ((0 ≤ l[x] ∧ l[x] < items.length) ∧ (rd_T40 items l[x]).f2 = true ∧ (rd_T40 items l[x]).f3 = v) →
        Ev (fun k => eyewitnessref22_last.l0 k l v (wrap64 ((x : Int) - 1)) vars items from_) ((runG items (l.take (x + 1)) v).getD (-1)) := by
      intro hno
      rw [wrap_pred (by omega) (by omega)]
      refine (ih (by omega) (fun i hi hxi => ?_)).eq ?_
      · rcases Nat.eq_or_lt_of_le hxi with rfl | h
        · exact hno
        · exact hn i hi h
      · rw [et, runG_snoc]
        congr 1
        unfold stepG
        split
        · rfl
        · split
          · rename_i h1 h2
            have : v ≠ (rd_T40 items l[x]).f3 := fun e => hno ⟨by omega, h2, e.symm⟩
            simp [upd, this]
          · rfl
    refine Ev.step (fun k => by rw [eyewitnessref22_last.l0]) (Ev.pos (by omega) (Ev.pos (by omega) (Ev.pos (by omega) ?_)))
    rw [rd_nat l x hx', ref22_item_eq]
    refine Ev.bind (Ev.now _) (Ev.ite (fun h1 => ?_) (fun h1 => next (fun c => h1 (by simpa using c.1))))
    have hr : 0 ≤ l[x] ∧ l[x] < items.length := by simpa using h1
    refine Ev.pos hr.1 (Ev.pos hr.2 (Ev.ite (fun h2 => Ev.ite (fun h3 => (Ev.now _).eq ?_) (fun h3 => next (fun c => h3 c.2.2))) (fun h2 => next (fun c => h2 c.2.1))))
    rw [et, runG_snoc]
    unfold stepG
    rw [if_neg (by omega), if_pos h2]
    simp [upd, h3]
theorem ref22_last_ev (vars : List ByteArray) (items : List Item) (from_ l : List Int) (v : Int) (hl : l.length ≤ 9223372036854775807) : Ev (fun k => eyewitnessref22_last.f k vars items from_ l v) ((runG items l v).getD (-1)) := by
  have := last_ev vars items from_ l v hl l.length (Nat.le_refl _) (fun i h h' => by omega)
  rw [List.take_length] at this
  unfold eyewitnessref22_last.f
  by_cases h0 : l.length = 0
  · rw [show wrap64 ((l.length : Int) - 1) = (l.length : Int) - 1 from wrap_pred (by omega) (by omega)]; exact this
  · rw [wrap_pred (by omega) (by omega)]; exact this
theorem wrong_l0 (vars : List ByteArray) (items : List Item) (from_ l kept : List Int) (hl : l.length ≤ 9223372036854775806) (hk : kept.length ≤ 9223372036854775807) (hf : items.length ≤ from_.length) : ∀ d (x : Nat), d + x = l.length →
    Ev (fun k => eyewitnessref22_Wrong.l0 k l kept x vars items from_) (wrongP items from_ kept (l.drop x) x (runG items (l.take x))) := by
  intro d
  induction d with
  | zero =>
    intro x hd
    refine Ev.step (fun k => by rw [eyewitnessref22_Wrong.l0]) (Ev.neg (by omega) ((Ev.now _).eq ?_))
    rw [List.drop_of_length_le (by omega)]
    rfl
  | succ d ih =>
    intro x hd
    have hx : x < l.length := by omega
    have e : l.drop x = l[x] :: l.drop (x + 1) := List.drop_eq_getElem_cons hx
    have et : l.take (x + 1) = l.take x ++ [l[x]] := by rw [List.take_succ_eq_append_getElem hx]
    have go : Ev (fun k => eyewitnessref22_Wrong.l0 k l kept (wrap64 ((x : Int) + 1)) vars items from_) (wrongP items from_ kept (l.drop (x + 1)) ((x : Int) + 1) (stepG items (runG items (l.take x)) l[x])) := by
      have := ih (x + 1) (by omega)
      rw [et, runG_snoc] at this
      rw [wrap_succ (by omega) (by omega)]
      exact this
    refine Ev.step (fun k => by rw [eyewitnessref22_Wrong.l0]) (Ev.pos (by omega) (Ev.pos (by omega) ?_))
    rw [rd_nat l x hx, ref22_item_eq, e]
    refine Ev.bind (Ev.now _) (Ev.ite (fun h1 => ?_) (fun h1 => ?_))
    · have hr : 0 ≤ l[x] ∧ l[x] < items.length := by simpa using h1
      have c1 : ¬ (l[x] < 0 ∨ (items.length : Int) ≤ l[x]) := by omega
      unfold wrongP
      rw [if_neg c1]
      unfold stepG at go
      rw [if_neg c1] at go
      refine Ev.bind (ref22_has_ev kept l[x] hk) (Ev.ite (fun h2 => ?_) (fun h2 => ?_))
      · have hin : l[x] ∈ kept := by simpa using h2
        refine Ev.pos hr.1 (Ev.pos hr.2 (Ev.ite (fun h3 => ?_) (fun h3 => ?_)))
        · rw [if_pos h3] at go ⊢
          exact go
        · rw [if_neg h3] at go ⊢
          refine Ev.pos (by omega) (Ev.pos (by omega) ?_)
          rw [Int.toNat_natCast]
          refine Ev.bind (ref22_last_ev vars items from_ (l.take x) _ (by rw [List.length_take]; omega)) (Ev.ite (fun h4 => ?_) (fun h4 => ?_))
          · rw [if_neg (fun c => c.2 h4)]; exact go
          · rw [if_pos ⟨hin, h4⟩]; exact Ev.now _
      · have hin : ¬ l[x] ∈ kept := by simpa using h2
        by_cases h3 : (rd_T40 items l[x]).f2 = true
        · rw [if_pos h3] at go ⊢
          exact go
        · rw [if_neg h3] at go ⊢
          rw [if_neg (fun c => hin c.1)]
          exact go
    · have c1 : l[x] < 0 ∨ (items.length : Int) ≤ l[x] := by
        have : ¬ (0 ≤ l[x] ∧ l[x] < items.length) := by simpa using h1
        omega
      unfold wrongP
      rw [if_pos c1]
      unfold stepG at go
      rw [if_pos c1] at go
      exact go
theorem ref22_Wrong_ev (vars : List ByteArray) (items : List Item) (from_ l kept : List Int) (hl : l.length ≤ 9223372036854775806) (hk : kept.length ≤ 9223372036854775807) (hf : items.length ≤ from_.length) :
    Ev (fun k => eyewitnessref22_Wrong.f k vars items from_ l kept) (wrongP items from_ kept l 0 (fun _ => none)) :=
  wrong_l0 vars items from_ l kept hl hk hf l.length 0 (by omega)
theorem legal_l1 (vars : List ByteArray) (items : List Item) (from_ l kept : List Int) (hl : l.length ≤ 9223372036854775806) (hk : kept.length ≤ 9223372036854775807) (hf : items.length ≤ from_.length) : ∀ d (x : Nat), d + x = kept.length →
    Ev (fun k => eyewitnessref22_Legal.l1 k l kept x vars items from_) (decide ((∀ i ∈ kept.drop x, i ∈ l) ∧ (wrongP items from_ kept l 0 (fun _ => none)).2 = false)) := by
  intro d
  induction d with
  | zero =>
    intro x hd
    refine Ev.step (fun k => by rw [eyewitnessref22_Legal.l1]) (Ev.neg (by omega) (Ev.bind (ref22_Wrong_ev vars items from_ l kept hl hk hf) ((Ev.now _).eq ?_)))
    rw [List.drop_of_length_le (by omega)]
    cases (wrongP items from_ kept l 0 (fun _ => none)).2 <;> simp
  | succ d ih =>
    intro x hd
    have hx : x < kept.length := by omega
    have e : kept.drop x = kept[x] :: kept.drop (x + 1) := List.drop_eq_getElem_cons hx
    refine Ev.step (fun k => by rw [eyewitnessref22_Legal.l1]) (Ev.pos (by omega) (Ev.pos (by omega) ?_))
    rw [rd_nat kept x hx, e, wrap_succ (by omega) (by omega)]
    refine Ev.bind (ref22_has_ev l kept[x] (by omega)) (Ev.ite (fun h => (ih (x + 1) (by omega)).eq ?_) (fun h => (Ev.now _).eq ?_))
    · have h' : kept[x] ∈ l := by simpa using h
      simp only [List.forall_mem_cons, h', true_and]
    · have h' : ¬ kept[x] ∈ l := by simpa using h
      symm
      rw [decide_eq_false_iff_not]
      exact fun c => h' (c.1 _ List.mem_cons_self)
theorem legal_l0 (vars : List ByteArray) (items : List Item) (from_ l kept : List Int) (hl : l.length ≤ 9223372036854775806) (hk : kept.length ≤ 9223372036854775807) (hf : items.length ≤ from_.length) : ∀ d (x : Nat), d + x = l.length →
    ∃ b : Bool, Ev (fun k => eyewitnessref22_Legal.l0 k l kept x vars items from_) b ∧ (b = true ↔ (∀ j (h : j < l.length), x ≤ j → (0 ≤ l[j] ∧ l[j] < items.length) ∧ ¬ l[j] ∈ l.take j) ∧ (∀ i ∈ kept, i ∈ l) ∧ (wrongP items from_ kept l 0 (fun _ => none)).2 = false) := by
  intro d
  induction d with
  | zero =>
    intro x hd
    have h1 : Ev (fun k => eyewitnessref22_Legal.l1 k l kept 0 vars items from_) (decide ((∀ i ∈ kept, i ∈ l) ∧ (wrongP items from_ kept l 0 (fun _ => none)).2 = false)) := legal_l1 vars items from_ l kept hl hk hf kept.length 0 (by omega)
    refine ⟨decide ((∀ i ∈ kept, i ∈ l) ∧ (wrongP items from_ kept l 0 (fun _ => none)).2 = false), Ev.step (fun k => by rw [eyewitnessref22_Legal.l0]) (Ev.neg (by omega) h1), ?_⟩
    rw [decide_eq_true_iff]
    exact ⟨fun h => ⟨fun j hj hx => by omega, h⟩, fun h => h.2⟩
  | succ d ih =>
    intro x hd
    have hx : x < l.length := by omega
    by_cases h1 : 0 ≤ l[x] ∧ l[x] < items.length
    · by_cases h2 : l[x] ∈ l.take x
      · refine ⟨false, Ev.step (fun k => by rw [eyewitnessref22_Legal.l0]) (Ev.pos (by omega) (Ev.pos (by omega) ?_)), ?_⟩
        · rw [rd_nat l x hx, ref22_item_eq, Int.toNat_natCast]
          exact Ev.bind (Ev.now _) (Ev.pos (by simpa using h1) (Ev.pos (by omega) (Ev.bind (ref22_has_ev _ _ (by rw [List.length_take]; omega)) (Ev.pos (by simpa using h2) (Ev.now _)))))
        · simp only [Bool.false_eq_true, false_iff]
          exact fun c => (c.1 x hx (Nat.le_refl _)).2 h2
      · obtain ⟨b, hb, hiff⟩ := ih (x + 1) (by omega)
        refine ⟨b, Ev.step (fun k => by rw [eyewitnessref22_Legal.l0]) (Ev.pos (by omega) (Ev.pos (by omega) ?_)), hiff.trans ⟨fun c => ⟨fun j hj hxj => ?_, c.2⟩, fun c => ⟨fun j hj hxj => c.1 j hj (by omega), c.2⟩⟩⟩
        · rw [rd_nat l x hx, ref22_item_eq, Int.toNat_natCast]
          refine Ev.bind (Ev.now _) (Ev.pos (by simpa using h1) (Ev.pos (by omega) (Ev.bind (ref22_has_ev _ _ (by rw [List.length_take]; omega)) (Ev.neg (by simpa using h2) ?_))))
          rw [wrap_succ (by omega) (by omega)]
          exact hb
        · rcases Nat.eq_or_lt_of_le hxj with rfl | h
          · exact ⟨h1, h2⟩
          · exact c.1 j hj h
    · refine ⟨false, Ev.step (fun k => by rw [eyewitnessref22_Legal.l0]) (Ev.pos (by omega) (Ev.pos (by omega) ?_)), ?_⟩
      · rw [rd_nat l x hx, ref22_item_eq]
        exact Ev.bind (Ev.now _) (Ev.neg (by simpa using h1) (Ev.now _))
      · simp only [Bool.false_eq_true, false_iff]
        exact fun c => h1 (c.1 x hx (Nat.le_refl _)).1
theorem nodup_take : ∀ l : List Int, l.Nodup ↔ ∀ j (h : j < l.length), ¬ l[j] ∈ l.take j := by
  intro l
  rw [List.Nodup, List.pairwise_iff_getElem]
  constructor
  · intro h j hj hm
    obtain ⟨i, hi, e⟩ := List.mem_take_iff_getElem.1 hm
    exact h i j (by omega) hj (by omega) e
  · intro h i j hi hj hij e
    exact h j hj (List.mem_take_iff_getElem.2 ⟨i, by omega, e⟩)
theorem ref22_Legal_ev (vars : List ByteArray) (items : List Item) (from_ l kept : List Int) (hl : l.length ≤ 9223372036854775806) (hk : kept.length ≤ 9223372036854775807) (hf : items.length ≤ from_.length) :
    Ev (fun k => eyewitnessref22_Legal.f k vars items from_ l kept) (decide (legalP items from_ l kept)) := by
  obtain ⟨b, hb, hiff⟩ := legal_l0 vars items from_ l kept hl hk hf l.length 0 (by omega)
  refine Ev.eq hb ?_
  rw [Bool.eq_iff_iff, hiff, decide_eq_true_iff, legalP, nodup_take]
  constructor
  · rintro ⟨h1, h2, h3⟩
    refine ⟨fun j hj => (h1 j hj (Nat.zero_le _)).2, fun i hi => ?_, h2, h3⟩
    obtain ⟨j, hj, rfl⟩ := List.mem_iff_getElem.1 hi
    exact (h1 j hj (Nat.zero_le _)).1
  · rintro ⟨h1, h2, h3, h4⟩
    exact ⟨fun j hj _ => ⟨h2 _ (List.getElem_mem hj), h1 j hj⟩, h3, h4⟩
theorem RunTells_pure (y0 : Hist × List Int × List Int) (hw0 : (∀ s ∈ y0.1, ∀ o ∈ s, True ∧ True ∧ (Lit.int .i64 o.f2).wf = true) ∧ (∀ x ∈ y0.2.1, (Lit.int .i64 x).wf = true) ∧ (∀ x ∈ y0.2.2, (Lit.int .i64 x).wf = true))
    (hb : (wtHist y0.1 + 1 + ((wsum (fun _ => 1) y0.2.1 + 1) + (wsum (fun _ => 1) y0.2.2 + 1))) + 1 ≤ 1048576) : Ev (fun k => eyewitnesslaw22_RunTells.f k y0.1 y0.2.1 y0.2.2) true := by
  obtain ⟨h, l, kept⟩ := y0
  simp only at hw0 hb ⊢
  rw [wsum_one, wsum_one] at hb
  obtain ⟨b1, b2, b3⟩ := hist_bounds (h := h) (B := 1048576) (by omega)
  have hj : ∀ b : Bool, (b = false → Small h 30) → Ev (fun k => eyewitnesslaw22_RunTells.j0 k b h l kept) true := by
    intro b hbs
    refine Ev.step (fun k => by rw [eyewitnesslaw22_RunTells.j0]) (Ev.ite (fun _ => Ev.bind awake22_ev (Ev.now _)) (fun e => ?_))
    have hs := hbs (by simpa using e)
    refine Ev.bind (ref11_Of_ev h (by omega) (by omega) (fun o ho => by have := b3 o ho; omega)) ?_
    rcases facts_cases h with hf | ⟨_, _, hf⟩
    · rw [hf]; exact Ev.neg (by simp) (Ev.bind awake22_ev (Ev.now _))
    · rw [hf]
      have hlen := intern_len h
      have hok := intern_ok h
      have hsl := hs.2.1
      have ok : runOk (internP h).2 (fromP (internP h).2) l kept :=
        ⟨by omega, by omega, by omega, by simp [fromP], hw0.2.1, hw0.2.2, fun x hx => (iwf_iff _).2 (by have := hok.2 x hx; have := hok.1; omega)⟩
      refine Ev.pos rfl ?_
      simp only [run_Legal.f, run_Wrong.f]
      rw [if_pos ok, if_pos ok]
      refine Ev.bind (Ev.now _) (Ev.bind (ref22_Wrong_ev _ _ _ _ _ (by omega) (by omega) ok.2.2.2.1) (Ev.bind awake22_ev (Ev.pos rfl (Ev.bind (Ev.now _) (Ev.bind (ref22_Legal_ev _ _ _ _ _ (by omega) (by omega) ok.2.2.2.1) (Ev.pos (by simp) (Ev.pos rfl ((Ev.now _).eq (by simp)))))))))
  unfold eyewitnesslaw22_RunTells.f
  refine Ev.bind (ref06_Small_ev h 30 (by omega) (by omega)) (Ev.ite (fun e1 => Ev.ite (fun _ => hj true (by simp)) (fun _ => hj _ (fun _ => by simpa using e1))) (fun _ => hj true (by simp)))
end Go.Proofs.Ytcnjnollmamifaa.P
