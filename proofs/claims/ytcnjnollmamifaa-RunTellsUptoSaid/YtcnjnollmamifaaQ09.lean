/- What the reference's interning comes to (layers 9 to 11). -/
import Derived.Test.YtcnjnollmamifaaQ06
import Derived.Test.YtcnjnollmamifaaPRef11Of
set_option linter.unusedVariables false
set_option linter.unusedSimpArgs false
namespace Go.Proofs.Ytcnjnollmamifaa.P
open Go.RowKit Go.Proofs.YtcnjnollmamifaaW.PrintWords Go.Proofs.YtcnjnollmamifaaW.PrintLast Go.Proofs.YtcnjnollmamifaaH

abbrev Item := S40
theorem rdItem_eq (l : List Item) (x : Nat) (hx : x < l.length) : rd_T40 l x = l[x] := by
  simp [rd_T40, hx]
theorem rdStr_eq (l : List ByteArray) (x : Nat) (hx : x < l.length) : rdOf ByteArray.empty l x = l[x] := by
  simp [rdOf, hx]
/-- Where a name stands among others. -/
def pos (l : List ByteArray) (s : ByteArray) : Option Nat := l.findIdx? (fun t => decide (t.toList = s.toList))
def posI (l : List ByteArray) (s : ByteArray) : Int := match pos l s with | some i => i | none => -1
theorem find_l0 (l : List ByteArray) (s : ByteArray) (hl : l.length ≤ 9223372036854775807) : ∀ d (x : Nat), d + x = l.length → (∀ i (h : i < l.length), i < x → ¬ l[i].toList = s.toList) →
    Ev (fun k => eyewitnessref09_find.l0 k l s x) (posI l s) := by
  intro d
  induction d with
  | zero =>
    intro x hd hn
    refine Ev.step (fun k => by rw [eyewitnessref09_find.l0]) (Ev.neg (by omega) ((Ev.now _).eq ?_))
    have : pos l s = none := by
      rw [pos, List.findIdx?_eq_none_iff]
      intro t ht
      obtain ⟨i, hi, rfl⟩ := List.mem_iff_getElem.1 ht
      simpa using hn i hi (by omega)
    rw [posI, this]
  | succ d ih =>
    intro x hd hn
    have hx : x < l.length := by omega
    refine Ev.step (fun k => by rw [eyewitnessref09_find.l0]) (Ev.pos (by omega) (Ev.pos (by omega) (Ev.ite (fun h => (Ev.now _).eq ?_) (fun h => ?_))))
    · rw [rdStr_eq l x hx] at h
      have : pos l s = some x := by
        rw [pos, List.findIdx?_eq_some_iff_getElem]
        exact ⟨hx, by simpa using h, fun j hj => by simpa using hn j (by omega) hj⟩
      rw [posI, this]
    · rw [rdStr_eq l x hx] at h
      rw [wrap_succ (by omega) (by omega)]
      refine ih (x + 1) (by omega) (fun i hi hix => ?_)
      rcases Nat.eq_or_lt_of_le (Nat.lt_succ_iff.1 hix) with rfl | h'
      · exact h
      · exact hn i hi h'
theorem ref09_find_ev (l : List ByteArray) (s : ByteArray) (hl : l.length ≤ 9223372036854775807) : Ev (fun k => eyewitnessref09_find.f k l s) (posI l s) :=
  find_l0 l s hl l.length 0 (by omega) (fun i _ h => absurd h (by omega))
theorem pos_lt {l : List ByteArray} {s : ByteArray} {i : Nat} (h : pos l s = some i) : i < l.length := by
  rw [pos, List.findIdx?_eq_some_iff_getElem] at h
  exact h.1
abbrev St := List ByteArray × List Item
/-- One operation is numbered. -/
def addOp (st : St) (i p : Nat) (o : Op) : St :=
  match pos st.1 o.f1 with
  | some v => (st.1, st.2 ++ [⟨i, p, o.f0, v, o.f2⟩])
  | none => (st.1 ++ [o.f1], st.2 ++ [⟨i, p, o.f0, (st.1.length : Int), o.f2⟩])
def addSess (i : Nat) : Nat → St → List Op → St
  | _, st, [] => st
  | p, st, o :: r => addSess i (p + 1) (addOp st i p o) r
def addAll : Nat → St → Hist → St
  | _, st, [] => st
  | i, st, s :: r => addAll (i + 1) (addSess i 0 st s) r
def internP (h : Hist) : St := addAll 0 ([], []) h
theorem addOp_len (st : St) (i p : Nat) (o : Op) : (addOp st i p o).2.length = st.2.length + 1 ∧ (addOp st i p o).1.length ≤ st.1.length + 1 := by
  unfold addOp
  cases pos st.1 o.f1 <;> simp
theorem addSess_len (i : Nat) : ∀ (l : List Op) (p : Nat) (st : St), (addSess i p st l).2.length = st.2.length + l.length ∧ (addSess i p st l).1.length ≤ st.1.length + l.length
  | [], _, st => by simp [addSess]
  | o :: r, p, st => by
    have h1 := addOp_len st i p o
    have h2 := addSess_len i r (p + 1) (addOp st i p o)
    simp only [addSess, List.length_cons]
    omega
theorem addAll_len : ∀ (h : Hist) (i : Nat) (st : St), (addAll i st h).2.length = st.2.length + h.flatten.length ∧ (addAll i st h).1.length ≤ st.1.length + h.flatten.length
  | [], _, st => by simp [addAll]
  | s :: r, i, st => by
    have h1 := addSess_len i s 0 st
    have h2 := addAll_len r (i + 1) (addSess i 0 st s)
    simp only [addAll, List.flatten_cons, List.length_append]
    omega
theorem of_sess (h : Hist) (i : Nat) (hi : i < h.length) (hil : h.length ≤ 9223372036854775807) (hsl : h[i].length ≤ 9223372036854775806) {r : List ByteArray × List Item × List Int × Int} :
    ∀ d (p : Nat) (st : St), d + p = h[i].length → st.1.length + (h[i].length - p) < 8796093022208 → st.2.length + (h[i].length - p) < 3518437208883 →
    Ev (fun k => eyewitnessref09_Of.l0 k h ((i : Int) + 1) (addSess i p st (h[i].drop p)).1 (addSess i p st (h[i].drop p)).2) r →
    Ev (fun k => eyewitnessref09_Of.l1 k h i p st.1 st.2) r := by
  intro d
  induction d with
  | zero =>
    intro p st hd h1 h2 hr
    refine Ev.step (fun k => by rw [eyewitnessref09_Of.l1]) (Ev.pos (by omega) (Ev.pos (by omega) (Ev.neg ?_ ?_)))
    · rw [rdL_eq h i hi]; omega
    · rw [wrap_succ (by omega) (by omega)]
      rw [List.drop_of_length_le (by omega)] at hr
      exact hr
  | succ d ih =>
    intro p st hd h1 h2 hr
    have hp : p < h[i].length := by omega
    have e : h[i].drop p = h[i][p] :: h[i].drop (p + 1) := List.drop_eq_getElem_cons hp
    have hl := addOp_len st i p h[i][p]
    rw [e] at hr
    refine Ev.step (fun k => by rw [eyewitnessref09_Of.l1]) (Ev.pos (by omega) (Ev.pos (by omega) (Ev.pos ?_ (Ev.pos (by omega) ?_))))
    · rw [rdL_eq h i hi]; omega
    rw [rdL_eq h i hi, rdOp_eq h[i] p hp, wrap_succ (by omega) (by omega)]
    refine Ev.bind (ref09_find_ev _ _ (by omega)) ?_
    have go := ih (p + 1) (addOp st i p h[i][p]) (by omega) (by omega) (by omega) hr
    unfold addOp at go
    cases hq : pos st.1 h[i][p].f1 with
    | none =>
      rw [hq] at go
      rw [show posI st.1 h[i][p].f1 = -1 by rw [posI, hq]]
      exact Ev.pos (by omega) (Ev.pos (by omega) (Ev.pos (by omega) go))
    | some v =>
      rw [hq] at go
      rw [show posI st.1 h[i][p].f1 = v by rw [posI, hq]]
      exact Ev.neg (by omega) (Ev.pos (by omega) go)
theorem of_all (h : Hist) (hil : h.length ≤ 9223372036854775807) : ∀ d (i : Nat) (st : St), d + i = h.length → st.1.length + (h.drop i).flatten.length < 3518437208883 → st.2.length + (h.drop i).flatten.length < 3518437208883 →
    Ev (fun k => eyewitnessref09_Of.l0 k h i st.1 st.2) ((addAll i st (h.drop i)).1, (addAll i st (h.drop i)).2, [], 0) := by
  intro d
  induction d with
  | zero =>
    intro i st hd h1 h2
    refine Ev.step (fun k => by rw [eyewitnessref09_Of.l0]) (Ev.neg (by omega) ((Ev.now _).eq ?_))
    rw [List.drop_of_length_le (by omega)]
    rfl
  | succ d ih =>
    intro i st hd h1 h2
    have hi : i < h.length := by omega
    have e : h.drop i = h[i] :: h.drop (i + 1) := List.drop_eq_getElem_cons hi
    rw [e, List.flatten_cons, List.length_append] at h1 h2
    have hl := addSess_len i h[i] 0 st
    refine Ev.step (fun k => by rw [eyewitnessref09_Of.l0]) (Ev.pos (by omega) ?_)
    refine of_sess h i hi hil (by omega) h[i].length 0 st (by omega) (by omega) (by omega) ?_
    rw [List.drop_zero, e]
    exact ih (i + 1) (addSess i 0 st h[i]) (by omega) (by omega) (by omega)
def ofP (h : Hist) : List ByteArray × List Item × List Int × Int := if RightOk h then ((internP h).1, (internP h).2, [], 0) else ([], [], [], 1)
theorem ref09_Of_ev (h : Hist) (hl : h.length ≤ 9223372036854775807) (hb : h.flatten.length < 3518437208883) (hs : ∀ o ∈ h.flatten, o.f1.size ≤ 9223372036854775807) : Ev (fun k => eyewitnessref09_Of.f k h) (ofP h) := by
  unfold eyewitnessref09_Of.f ofP
  refine Ev.bind (ref06_Right_ev h hl (by omega) hs) (Ev.ite (fun e => ?_) (fun e => ?_))
  · rw [if_pos (by simpa using e)]
    have := of_all h hl h.length 0 ([], []) (by omega) (by simpa using hb) (by simpa using hb)
    simpa [internP] using this
  · rw [if_neg (by simpa using e)]
    exact Ev.now _
/-! ### layer 10 -/
def isWrite (v val : Int) (x : Item) : Bool := x.f2 && decide (x.f3 = v) && decide (x.f4 = val)
def writeP (items : List Item) (v val : Int) : Option Nat := items.findIdx? (isWrite v val)
def writeR (items : List Item) (v val : Int) : Int × Bool := match writeP items v val with | some i => (i, true) | none => (0, false)
theorem write_l0 (vars : List ByteArray) (items : List Item) (from_ : List Int) (v val : Int) (hl : items.length ≤ 9223372036854775807) : ∀ d (x : Nat), d + x = items.length → (∀ i (h : i < items.length), i < x → isWrite v val items[i] = false) →
    Ev (fun k => eyewitnessref10_Write.l0 k v val x vars items from_) (writeR items v val) := by
  intro d
  induction d with
  | zero =>
    intro x hd hn
    refine Ev.step (fun k => by rw [eyewitnessref10_Write.l0]) (Ev.neg (by omega) ((Ev.now _).eq ?_))
    have : writeP items v val = none := by
      rw [writeP, List.findIdx?_eq_none_iff]
      intro t ht
      obtain ⟨i, hi, rfl⟩ := List.mem_iff_getElem.1 ht
      exact hn i hi (by omega)
    rw [writeR, this]
  | succ d ih =>
    intro x hd hn
    have hx : x < items.length := by omega
    have next : isWrite v val items[x] = false → Ev (fun k => eyewitnessref10_Write.l0 k v val (wrap64 (x + 1)) vars items from_) (writeR items v val) := by
      intro h
      rw [wrap_succ (by omega) (by omega)]
      refine ih (x + 1) (by omega) (fun i hi hix => ?_)
      rcases Nat.eq_or_lt_of_le (Nat.lt_succ_iff.1 hix) with rfl | h'
      · exact h
      · exact hn i hi h'
    refine Ev.step (fun k => by rw [eyewitnessref10_Write.l0]) (Ev.pos (by omega) (Ev.pos (by omega) ?_))
    rw [rdItem_eq items x hx]
    refine Ev.ite (fun h1 => Ev.ite (fun h2 => Ev.ite (fun h3 => (Ev.now _).eq ?_) (fun h3 => next ?_)) (fun h2 => next ?_)) (fun h1 => next ?_)
    · have : writeP items v val = some x := by
        rw [writeP, List.findIdx?_eq_some_iff_getElem]
        exact ⟨hx, by simp [isWrite, h1, h2, h3], fun j hj => by simpa using hn j (by omega) hj⟩
      rw [writeR, this]
    · simp [isWrite, h3]
    · simp [isWrite, h2]
    · simp [isWrite, h1]
theorem ref10_Write_ev (vars : List ByteArray) (items : List Item) (from_ : List Int) (v val : Int) (hl : items.length ≤ 9223372036854775807) : Ev (fun k => eyewitnessref10_Write.f k vars items from_ v val) (writeR items v val) :=
  write_l0 vars items from_ v val hl items.length 0 (by omega) (fun i _ h => absurd h (by omega))
/-- Is a history differentiated? From item j on. -/
def checkP (items : List Item) : Nat → List Item → Int × Int × Int
  | _, [] => (0, 0, 0)
  | j, x :: r => if x.f2 = true then (if x.f4 = 0 then (j, j, 5) else if (writeR items x.f3 x.f4).1 < j then ((writeR items x.f3 x.f4).1, j, 4) else checkP items (j + 1) r) else checkP items (j + 1) r
theorem check_l0 (vars : List ByteArray) (items : List Item) (from_ : List Int) (hl : items.length ≤ 9223372036854775807) : ∀ d (x : Nat), d + x = items.length →
    Ev (fun k => eyewitnessref10_Check.l0 k x vars items from_) (checkP items x (items.drop x)) := by
  intro d
  induction d with
  | zero =>
    intro x hd
    refine Ev.step (fun k => by rw [eyewitnessref10_Check.l0]) (Ev.neg (by omega) ((Ev.now _).eq ?_))
    rw [List.drop_of_length_le (by omega)]
    rfl
  | succ d ih =>
    intro x hd
    have hx : x < items.length := by omega
    have e : items.drop x = items[x] :: items.drop (x + 1) := List.drop_eq_getElem_cons hx
    have go := ih (x + 1) (by omega)
    refine Ev.step (fun k => by rw [eyewitnessref10_Check.l0]) (Ev.pos (by omega) (Ev.pos (by omega) ?_))
    rw [rdItem_eq items x hx, e, checkP, wrap_succ (by omega) (by omega)]
    refine Ev.ite (fun h1 => ?_) (fun h1 => by rw [if_neg h1]; exact go)
    rw [if_pos h1]
    refine Ev.ite (fun h2 => by rw [if_pos h2]; exact Ev.now _) (fun h2 => ?_)
    rw [if_neg h2]
    refine Ev.bind (ref10_Write_ev vars items from_ _ _ hl) (Ev.ite (fun h3 => by rw [if_pos h3]; exact Ev.now _) (fun h3 => by rw [if_neg h3]; exact go))
theorem ref10_Check_ev (vars : List ByteArray) (items : List Item) (from_ : List Int) (hl : items.length ≤ 9223372036854775807) : Ev (fun k => eyewitnessref10_Check.f k vars items from_) (checkP items 0 items) :=
  check_l0 vars items from_ hl items.length 0 (by omega)
/-! ### layer 11 -/
def from1 (items : List Item) (x : Item) : Int := if x.f2 = true then -3 else if x.f4 = 0 then -1 else match writeP items x.f3 x.f4 with | some w => w | none => -2
def fromP (items : List Item) : List Int := items.map (from1 items)
theorem from_l0 (vars : List ByteArray) (items : List Item) (from_ : List Int) (hl : items.length < 17592186044416) : ∀ d (x : Nat) (acc : List Int), d + x = items.length → acc.length = x →
    Ev (fun k => eyewitnessref11_From.l0 k acc x vars items from_) (acc ++ (items.drop x).map (from1 items)) := by
  intro d
  induction d with
  | zero =>
    intro x acc hd ha
    refine Ev.step (fun k => by rw [eyewitnessref11_From.l0]) (Ev.neg (by omega) ((Ev.now _).eq ?_))
    rw [List.drop_of_length_le (by omega)]
    simp
  | succ d ih =>
    intro x acc hd ha
    have hx : x < items.length := by omega
    have e : items.drop x = items[x] :: items.drop (x + 1) := List.drop_eq_getElem_cons hx
    have go : ∀ v, from1 items items[x] = v → Ev (fun k => if acc.length < 17592186044416 then eyewitnessref11_From.l0 k (acc ++ [v]) (wrap64 (x + 1)) vars items from_ else none) (acc ++ (items.drop x).map (from1 items)) := by
      intro v hv
      refine Ev.pos (by omega) ?_
      rw [wrap_succ (by omega) (by omega), e, List.map_cons, hv]
      have := ih (x + 1) (acc ++ [v]) (by omega) (by simp [ha])
      simpa using this
    refine Ev.step (fun k => by rw [eyewitnessref11_From.l0]) (Ev.pos (by omega) (Ev.pos (by omega) ?_))
    rw [rdItem_eq items x hx]
    refine Ev.bind (ref10_Write_ev vars items from_ _ _ (by omega)) ?_
    have hf : from1 items items[x] = if items[x].f2 = true then -3 else if items[x].f4 = 0 then -1 else match writeP items items[x].f3 items[x].f4 with | some w => (w : Int) | none => -2 := rfl
    refine Ev.ite (fun h1 => go _ (by rw [hf, if_pos h1])) (fun h1 => Ev.ite (fun h2 => go _ (by rw [hf, if_neg h1, if_pos h2])) (fun h2 => ?_))
    rw [if_neg h1, if_neg h2] at hf
    unfold writeR
    cases hw : writeP items items[x].f3 items[x].f4 with
    | none => rw [hw] at hf; exact Ev.neg (by simp) (go _ hf)
    | some w => rw [hw] at hf; exact Ev.pos rfl (go _ hf)
theorem ref11_From_ev (vars : List ByteArray) (items : List Item) (from_ : List Int) (hl : items.length < 17592186044416) : Ev (fun k => eyewitnessref11_From.f k vars items from_) (fromP items) := by
  have := from_l0 vars items from_ hl items.length 0 [] (by omega) rfl
  simpa [eyewitnessref11_From.f, fromP] using this
def fillP (f : List ByteArray × List Item × List Int) : List ByteArray × List Item × List Int := (f.1, f.2.1, fromP f.2.1)
/-- The whole facts of a history; false: none. -/
def factsP (h : Hist) : List ByteArray × List Item × List Int × Bool :=
  if RightOk h then (if (checkP (internP h).2 0 (internP h).2).2.2 = 0 then ((internP h).1, (internP h).2, fromP (internP h).2, true) else ([], [], [], false)) else ([], [], [], false)
theorem ref11_Of_ev (h : Hist) (hl : h.length ≤ 9223372036854775807) (hb : h.flatten.length < 3518437208883) (hs : ∀ o ∈ h.flatten, o.f1.size ≤ 9223372036854775807) : Ev (fun k => eyewitnessref11_Of.f k h) (factsP h) := by
  unfold eyewitnessref11_Of.f factsP
  have hlen := (addAll_len h 0 ([], [])).1
  refine Ev.bind (ref09_Of_ev h hl hb hs) ?_
  unfold ofP
  by_cases hr : RightOk h
  · rw [if_pos hr, if_pos hr]
    refine Ev.pos rfl (Ev.bind (ref10_Check_ev _ _ _ ?_) (Ev.ite (fun e => ?_) (fun e => ?_)))
    · simp only [internP]; simp only [List.length_nil, Nat.zero_add] at hlen; omega
    · rw [if_pos e]
      unfold eyewitnessref11_Fill.f
      refine Ev.bind (Ev.bind (ref11_From_ev _ _ _ ?_) (Ev.now _)) (Ev.now _)
      simp only [internP]; simp only [List.length_nil, Nat.zero_add] at hlen; omega
    · rw [if_neg e]; exact Ev.now _
  · rw [if_neg hr, if_neg hr]
    exact Ev.neg (by simp) (Ev.now _)
/-! ### what all facts have -/
/-- Each item's variable is the number of one, and there are no more variables than items. -/
def StOk (st : St) : Prop := st.1.length ≤ st.2.length ∧ ∀ x ∈ st.2, 0 ≤ x.f3 ∧ x.f3 < st.1.length
theorem addOp_ok {st : St} (h : StOk st) (i p : Nat) (o : Op) : StOk (addOp st i p o) := by
  unfold addOp
  cases hq : pos st.1 o.f1 with
  | none =>
    refine ⟨by simp; exact h.1, fun x hx => ?_⟩
    rcases List.mem_append.1 hx with hx | hx
    · have := h.2 x hx; simp; omega
    · rw [List.mem_singleton.1 hx]; simp; omega
  | some v =>
    have hv := pos_lt hq
    refine ⟨by have := h.1; simp; omega, fun x hx => ?_⟩
    rcases List.mem_append.1 hx with hx | hx
    · exact h.2 x hx
    · rw [List.mem_singleton.1 hx]; simp; omega
theorem addSess_ok (i : Nat) : ∀ (l : List Op) (p : Nat) (st : St), StOk st → StOk (addSess i p st l)
  | [], _, _, h => h
  | o :: r, p, st, h => addSess_ok i r (p + 1) _ (addOp_ok h i p o)
theorem addAll_ok : ∀ (h : Hist) (i : Nat) (st : St), StOk st → StOk (addAll i st h)
  | [], _, _, h => h
  | s :: r, i, st, h => addAll_ok r (i + 1) _ (addSess_ok i s 0 st h)
theorem intern_ok (h : Hist) : StOk (internP h) := addAll_ok h 0 _ ⟨by simp, by simp⟩
theorem intern_len (h : Hist) : (internP h).2.length = h.flatten.length := by
  have := (addAll_len h 0 ([], [])).1
  rwa [List.length_nil, Nat.zero_add] at this
theorem facts_cases (h : Hist) : (factsP h = ([], [], [], false)) ∨ (RightOk h ∧ (checkP (internP h).2 0 (internP h).2).2.2 = 0 ∧ factsP h = ((internP h).1, (internP h).2, fromP (internP h).2, true)) := by
  unfold factsP
  by_cases h1 : RightOk h
  · by_cases h2 : (checkP (internP h).2 0 (internP h).2).2.2 = 0
    · exact .inr ⟨h1, h2, by rw [if_pos h1, if_pos h2]⟩
    · exact .inl (by rw [if_pos h1, if_neg h2])
  · exact .inl (by rw [if_neg h1])
end Go.Proofs.Ytcnjnollmamifaa.P
