/- Part ZI of the proof. -/
import Derived.Test.YthhgiappgpeloaaDoorZB
import Derived.Test.YthhgiappgpeloaaDoorZF
set_option linter.unusedVariables false
set_option linter.unusedSimpArgs false
namespace Go.AM
open Go.Lib
attribute [-simp] List.length_flatten List.map_flatten List.map_take List.map_map List.flatten_append
theorem dec_head : ∀ u, 1 ≤ u → ∃ c t, decDigits u = c :: t ∧ c.toNat ≠ 48 := dec_rec
  (fun u h h1 => ⟨_, _, dec_small h, by rw [byte_nat h]; omega⟩)
  (fun u h ih h1 => by
    obtain ⟨c, t, h2, h3⟩ := ih (by omega)
    exact ⟨c, _, by rw [dec_big h, h2]; rfl, h3⟩)
theorem dec_cons (u : Nat) : ∃ c t, decDigits u = c :: t ∧ dig c = true := by
  cases h : decDigits u with
  | nil => have := dec_ne u; rw [h] at this; cases this
  | cons c t =>
    refine ⟨c, t, rfl, ?_⟩
    have := dec_dig u
    rw [h] at this
    simp only [List.all_cons, Bool.and_eq_true] at this
    exact this.1
theorem sgn_dec (u : Nat) (r : List UInt8) : sgn (decDigits u ++ r) = 0 := by
  obtain ⟨c, t, h, hc⟩ := dec_cons u
  rw [h, sgn]
  rw [if_neg]
  intro h'
  simp only [List.cons_append, List.isPrefixOf, Bool.and_eq_true, beq_iff_eq] at h'
  rw [← h'.1] at hc
  revert hc; decide
theorem sgn_neg (r : List UInt8) : sgn (45 :: r) = 1 := by simp [sgn, List.isPrefixOf]
theorem itoa_pos {q : Int} (h : ¬ q < 0) : itoa q = decDigits q.natAbs := by
  rw [itoa, if_neg h, show q.toNat = q.natAbs by omega]
theorem itoa_ng {q : Int} (h : q < 0) : itoa q = 45 :: decDigits q.natAbs := by rw [itoa, if_pos h]
theorem get_itoa {q : Int} (h : okN q) : getS (itoa q) = (q, 0) := by
  obtain ⟨h1, h2⟩ := h
  by_cases hq : q < 0
  · rw [itoa_ng hq]
    have hs := sgn_neg (decDigits q.natAbs)
    have hd : (45 :: decDigits q.natAbs).drop (sgn (45 :: decDigits q.natAbs)) = decDigits q.natAbs := by rw [hs]; rfl
    have hok : okD (45 :: decDigits q.natAbs) := by
      unfold okD
      rw [hd]
      refine ⟨fun h => ?_, dec_dig _, fun h => ?_⟩
      · have := dec_ne q.natAbs; rw [h] at this; cases this
      · obtain ⟨c, t, h3, h4⟩ := dec_head q.natAbs (by omega)
        rw [h3] at h
        exact h4 h.1
    unfold getS
    rw [if_pos hok, hd, dec_num, mostN, hs, if_pos (by omega), if_pos rfl]
    rw [show -(q.natAbs : Int) = q by omega]
  · rw [itoa_pos hq]
    have hs : sgn (decDigits q.natAbs) = 0 := by have := sgn_dec q.natAbs []; rwa [List.append_nil] at this
    have hd : (decDigits q.natAbs).drop (sgn (decDigits q.natAbs)) = decDigits q.natAbs := by rw [hs]; rfl
    have hok : okD (decDigits q.natAbs) := by
      unfold okD
      rw [hd]
      refine ⟨fun h => ?_, dec_dig _, fun h => ?_⟩
      · have := dec_ne q.natAbs; rw [h] at this; cases this
      · by_cases h0 : q.natAbs = 0
        · rw [h0] at h; exact h.2 (by rw [dec_small (by decide)]; decide)
        · obtain ⟨c, t, h3, h4⟩ := dec_head q.natAbs (by omega)
          rw [h3] at h
          exact h4 h.1
    unfold getS
    rw [if_pos hok, hd, dec_num, mostN, hs, if_pos (by omega), if_neg (by decide)]
    rw [show (q.natAbs : Int) = q by omega]
theorem tw_all {p : UInt8 → Bool} : ∀ {l r : List UInt8}, l.all p = true → (l ++ r).takeWhile p = l ++ r.takeWhile p
  | [], r, _ => rfl
  | c :: l, r, h => by
    simp only [List.all_cons, Bool.and_eq_true] at h
    rw [List.cons_append, List.takeWhile_cons_of_pos h.1, tw_all h.2]; rfl
theorem span_itoa (q : Int) (r : List UInt8) (hr : r.takeWhile dig = []) : spanR (itoa q ++ r) = (itoa q).length := by
  by_cases hq : q < 0
  · rw [itoa_ng hq, List.cons_append, spanR, sgn_neg]
    show 1 + ((decDigits q.natAbs ++ r).takeWhile dig).length = _
    rw [tw_all (dec_dig _), hr, List.append_nil, List.length_cons]; omega
  · rw [itoa_pos hq, spanR, sgn_dec]
    show 0 + ((decDigits q.natAbs ++ r).takeWhile dig).length = _
    rw [tw_all (dec_dig _), hr, List.append_nil]; omega
theorem itoa_ne (q : Int) : 1 ≤ (itoa q).length := by
  by_cases hq : q < 0
  · rw [itoa_ng hq]; simp
  · rw [itoa_pos hq]; exact dec_ne _
theorem span_at (s t : List UInt8) (ht : 0 < t.length) : spanI (s ++ t) (s.length : Nat) = (spanR t : Nat) := by
  unfold spanI
  rw [if_neg (by rw [List.length_append]; omega), Int.toNat_natCast, List.drop_left]
theorem dec_inv : ∀ (k : Nat) (d : List UInt8), d.length = k + 1 → d.all dig = true → (nth d 0 = 48 → d = [48]) → decDigits (numV d) = d := by
  intro k
  induction k with
  | zero =>
    intro d hl hd _
    match d, hl with
    | [c], _ =>
      simp only [List.all_cons, List.all_nil, Bool.and_true, dig, Bool.and_eq_true, decide_eq_true_eq] at hd
      show decDigits (10 * 0 + (c.toNat - 48)) = [c]
      rw [dec_small (by omega)]
      congr 1
      apply UInt8.toNat_inj.1
      rw [byte_nat (by omega)]; omega
  | succ k ih =>
    intro d hl hd h48
    have hne0 : d ≠ [] := fun h => by rw [h] at hl; cases hl
    obtain ⟨d', c, rfl⟩ : ∃ d' c, d = d' ++ [c] := ⟨d.dropLast, d.getLast hne0, (List.dropLast_concat_getLast hne0).symm⟩
    rw [List.length_append, List.length_singleton] at hl
    rw [List.all_append, Bool.and_eq_true] at hd
    have hc := hd.2
    simp only [List.all_cons, List.all_nil, Bool.and_true, dig, Bool.and_eq_true, decide_eq_true_eq] at hc
    have h0 : nth (d' ++ [c]) 0 = nth d' 0 := by
      rw [nth_eq (by rw [List.length_append]; omega), nth_eq (by omega), List.getElem_append_left (by omega)]
    have hne : nth d' 0 ≠ 48 := fun h => by
      have := congrArg List.length (h48 (h0.trans h))
      rw [List.length_append, List.length_singleton, List.length_singleton] at this
      omega
    have hI := ih d' (by omega) hd.1 (fun h => absurd h hne)
    have h1 : 1 ≤ numV d' := by
      rcases Nat.eq_zero_or_pos (numV d') with h | h
      · rw [h, dec_small (by decide)] at hI
        rw [← hI] at hne
        exact absurd (by decide) hne
      · exact h
    rw [numV_snoc, dec_big (by omega), show (10 * numV d' + (c.toNat - 48)) / 10 = numV d' by omega, hI, show (10 * numV d' + (c.toNat - 48)) % 10 = c.toNat - 48 by omega]
    congr 2
    apply UInt8.toNat_inj.1
    rw [byte_nat (by omega)]; omega
theorem itoa_get {s : List UInt8} (h : (getS s).2 = 0) : okN (getS s).1 ∧ itoa (getS s).1 = s := by
  unfold getS at h ⊢
  by_cases ho : okD s
  · rw [if_pos ho] at h ⊢
    by_cases hm : numV (s.drop (sgn s)) ≤ mostN s
    · rw [if_pos hm]
      obtain ⟨h1, h2, h3⟩ := ho
      have hI : decDigits (numV (s.drop (sgn s))) = s.drop (sgn s) := by
        refine dec_inv ((s.drop (sgn s)).length - 1) _ ?_ h2 fun h4 => ?_
        · have : (s.drop (sgn s)).length ≠ 0 := fun h => h1 (List.length_eq_zero_iff.1 h)
          omega
        · have hs : s = [48] := Decidable.not_not.1 fun h5 => h3 ⟨by rw [h4]; rfl, h5⟩
          rw [hs]; rfl
      have hsg : sgn s = 0 ∨ sgn s = 1 := by unfold sgn; split <;> simp
      rcases hsg with hg | hg
      · have hd : s.drop (sgn s) = s := by rw [hg]; rfl
        rw [hd] at hI hm ⊢
        have hm' : numV s ≤ 9223372036854775807 := by unfold mostN at hm; rw [hg] at hm; exact hm
        rw [if_neg (by rw [hg]; decide)]
        refine ⟨⟨by simp only; omega, by simp only; omega⟩, ?_⟩
        rw [itoa_pos (by simp only; omega)]
        show decDigits ((numV s : Int)).natAbs = s
        rw [Int.natAbs_natCast, hI]
      · have hs : s = 45 :: s.drop 1 := by
          unfold sgn at hg
          split at hg
          · rename_i hp
            cases s with
            | nil => simp [List.isPrefixOf] at hp
            | cons c t =>
              simp only [List.isPrefixOf, Bool.and_eq_true, beq_iff_eq] at hp
              rw [← hp.1]; rfl
          · cases hg
        rw [hg] at hI hm h3 ⊢
        have hm' : numV (s.drop 1) ≤ 9223372036854775808 := by unfold mostN at hm; rw [hg] at hm; exact hm
        have hpos : 1 ≤ numV (s.drop 1) := by
          rcases Nat.eq_zero_or_pos (numV (s.drop 1)) with h0 | h0
          · rw [h0, dec_small (by decide)] at hI
            refine absurd ⟨?_, ?_⟩ h3
            · rw [← hI]; decide
            · rw [hs]; intro h'; injection h' with h' _; revert h'; decide
          · exact h0
        rw [if_pos rfl]
        refine ⟨⟨by simp only; omega, by simp only; omega⟩, ?_⟩
        rw [itoa_ng (by simp only; omega)]
        show 45 :: decDigits (-(numV (s.drop 1) : Int)).natAbs = s
        rw [Int.natAbs_neg, Int.natAbs_natCast, hI, ← hs]
    · rw [if_neg hm] at h; cases h
  · rw [if_neg ho] at h; cases h
theorem get_bad {s : List UInt8} (h : ¬ (getS s).2 = 0) : (getS s).1 = 0 := by
  unfold getS at h ⊢
  split
  · rename_i h1
    rw [if_pos h1] at h
    split
    · rename_i h2; rw [if_pos h2] at h; exact absurd rfl h
    · rfl
  · rfl
theorem span_sign {s : List UInt8} {i : Nat} (h : 0 < spanI s i) (hi : i < s.length) : ((nth s i).toNat : Int) = 45 ∨ (48 ≤ ((nth s i).toNat : Int) ∧ ((nth s i).toNat : Int) ≤ 57) := by
  unfold spanI at h
  rw [if_neg (by omega), Int.toNat_natCast, List.drop_eq_getElem_cons hi, ← nth_eq hi] at h
  generalize nth s i = c at *
  by_cases h1 : c = 45
  · left; rw [h1]; rfl
  · have hs : sgn (c :: s.drop (i + 1)) = 0 := by
      unfold sgn; rw [if_neg]
      intro h'
      simp only [List.isPrefixOf, Bool.and_eq_true, beq_iff_eq] at h'
      exact h1 h'.1.symm
    rw [spanR, hs] at h
    cases hd : dig c with
    | true =>
      simp only [dig, Bool.and_eq_true, decide_eq_true_eq] at hd
      right; omega
    | false =>
      rw [List.drop_zero, List.takeWhile_cons_of_neg (by rw [hd]; decide)] at h
      simp at h
end Go.AM

set_option linter.unusedVariables false
set_option linter.unusedSimpArgs false
namespace Go.AM
open Go.Lib
attribute [-simp] List.length_flatten List.map_flatten List.map_take List.map_map List.flatten_append
theorem dig_ch {l : List UInt8} (h : l.all dig = true) : ∀ c ∈ l, c ≠ 10 ∧ c ≠ 32 := fun c hc => by
  have := List.all_eq_true.1 h c hc
  constructor <;> (rintro rfl; exact absurd this (by decide))
theorem itoa_ch (q : Int) : ∀ c ∈ itoa q, c ≠ 10 ∧ c ≠ 32 := fun c hc => by
  unfold itoa at hc
  split at hc
  · rcases List.mem_cons.1 hc with rfl | hc
    · exact ⟨by decide, by decide⟩
    · exact dig_ch (dec_dig _) c hc
  · exact dig_ch (dec_dig _) c hc
theorem itoa_inj {x y : Int} (hx : okN x) (hy : okN y) (h : itoa x = itoa y) : x = y := by
  have h1 := get_itoa hx
  have h2 := get_itoa hy
  rw [h, h2] at h1
  injection h1 with h1
  exact h1.symm
theorem cutAt {c : UInt8} : ∀ {x y u v : List UInt8}, c ∉ x → c ∉ y → x ++ c :: u = y ++ c :: v → x = y ∧ u = v
  | [], [], u, v, _, _, h => by simpa using h
  | [], b :: y, u, v, _, hy, h => by
    simp only [List.nil_append, List.cons_append, List.cons.injEq] at h
    exact absurd (by simp [h.1]) hy
  | a :: x, [], u, v, hx, _, h => by
    simp only [List.nil_append, List.cons_append, List.cons.injEq] at h
    exact absurd (by simp [h.1]) hx
  | a :: x, b :: y, u, v, hx, hy, h => by
    simp only [List.cons_append, List.cons.injEq] at h
    obtain ⟨h1, h2⟩ := cutAt (fun hm => hx (List.mem_cons_of_mem _ hm)) (fun hm => hy (List.mem_cons_of_mem _ hm)) h.2
    exact ⟨by rw [h.1, h1], h2⟩
def fmT (l : List Int) : List UInt8 := l.flatMap fun x => 32 :: itoa x
theorem fm_start (l : List Int) : ∃ t, fmT l ++ [32] = 32 :: t := by
  cases l with
  | nil => exact ⟨[], rfl⟩
  | cons a r => exact ⟨_, rfl⟩
theorem fm_ch {l : List Int} : (10 : UInt8) ∉ fmT l := fun h => by
  obtain ⟨x, hx, hc⟩ := List.mem_flatMap.1 h
  rcases List.mem_cons.1 hc with h | h
  · exact absurd h (by decide)
  · exact (itoa_ch x _ h).1 rfl
theorem fm_inj : ∀ {l l' : List Int}, (∀ x ∈ l, okN x) → (∀ x ∈ l', okN x) → fmT l = fmT l' → l = l'
  | [], [], _, _, _ => rfl
  | [], b :: r, _, _, h => by cases h
  | a :: r, [], _, _, h => by cases h
  | a :: r, b :: r', h1, h2, h => by
    have e : itoa a ++ fmT r = itoa b ++ fmT r' := by
      have : 32 :: (itoa a ++ fmT r) = 32 :: (itoa b ++ fmT r') := h
      injection this
    obtain ⟨t, ht⟩ := fm_start r
    obtain ⟨t', ht'⟩ := fm_start r'
    have e2 : itoa a ++ 32 :: t = itoa b ++ 32 :: t' := by
      rw [← ht, ← ht', ← List.append_assoc, ← List.append_assoc, e]
    obtain ⟨k1, k2⟩ := cutAt (fun hm => (itoa_ch a _ hm).2 rfl) (fun hm => (itoa_ch b _ hm).2 rfl) e2
    have e3 : fmT r = fmT r' := by
      have : fmT r ++ [32] = fmT r' ++ [32] := by rw [ht, ht', k2]
      exact List.append_cancel_right this
    rw [itoa_inj (h1 a (by simp)) (h2 b (by simp)) k1, fm_inj (fun x hx => h1 x (by simp [hx])) (fun x hx => h2 x (by simp [hx])) e3]
theorem num_cut {nm : List UInt8} {l l' : List Int} {u v : List UInt8} (hn : (10 : UInt8) ∉ nm) (h1 : ∀ x ∈ l, okN x) (h2 : ∀ x ∈ l', okN x) (h : numT nm l ++ u = numT nm l' ++ v) : l = l' ∧ u = v := by
  have e : (nm ++ fmT l) ++ 10 :: u = (nm ++ fmT l') ++ 10 :: v := by
    unfold numT at h
    simpa [fmT] using h
  have hm : ∀ l, (10 : UInt8) ∉ nm ++ fmT l := fun l hc => by
    rcases List.mem_append.1 hc with h | h
    · exact hn h
    · exact fm_ch h
  obtain ⟨k1, k2⟩ := cutAt (hm l) (hm l') e
  exact ⟨fm_inj h1 h2 (List.append_cancel_left k1), k2⟩
theorem sts_inj : ∀ {l l' : List Stp}, (∀ x ∈ l, okStp x) → (∀ x ∈ l', okStp x) → l.flatMap stT = l'.flatMap stT → l = l'
  | [], [], _, _, _ => rfl
  | [], b :: r, _, _, h => by
    have := congrArg List.length h
    rw [List.flatMap_cons, List.length_append, stT, numT] at this
    first
      | (simp at this; done)
      | (simp at this; omega)
  | a :: r, [], _, _, h => by
    have := congrArg List.length h
    rw [List.flatMap_cons, List.length_append, stT, numT] at this
    first
      | (simp at this; done)
      | (simp at this; omega)
  | a :: r, b :: r', h1, h2, h => by
    rw [List.flatMap_cons, List.flatMap_cons] at h
    obtain ⟨k1, k2⟩ := num_cut (by decide) (okNm_st (h1 a (by simp))).2.2 (okNm_st (h2 b (by simp))).2.2 h
    have e : a = b := by
      cases a; cases b
      simp only [stL, List.cons.injEq, and_true] at k1
      obtain ⟨a1, a2, a3, a4, a5⟩ := k1
      subst a1; subst a2; subst a3; subst a4; subst a5; rfl
    rw [e, sts_inj (fun x hx => h1 x (by simp [hx])) (fun x hx => h2 x (by simp [hx])) k2]
theorem wit_inj {a b : Wit} (ha : okWit a) (hb' : okWit b) (h : witT a = witT b) : a = b := by
  obtain ⟨k1, k2⟩ := num_cut (by decide) (okNm_pat ha).2.2 (okNm_pat hb').2.2 h
  have k3 := sts_inj ha.2.2 hb'.2.2 k2
  cases a; cases b
  simp only [patL, List.cons.injEq, and_true] at k1 k3
  obtain ⟨a1, a2, a3, a4, a5, a6, a7⟩ := k1
  subst a1; subst a2; subst a3; subst a4; subst a5; subst a6; subst a7; subst k3; rfl
theorem vd_inj {i k : Int} {a b : Wit} (hi : okN i) (hk : okN k) (ha : okWit a) (hb' : okWit b) : vdT 0 0 0 0 i a = vdT 0 0 0 0 k b ↔ i = k ∧ a = b := by
  constructor
  · intro h
    rw [vdT, vdT, if_pos rfl, if_pos rfl] at h
    obtain ⟨k1, k2⟩ := num_cut (by decide) (okNm_inc hi).2.2 (okNm_inc hk).2.2 h
    injection k1 with k1
    exact ⟨k1, wit_inj ha hb' k2⟩
  · rintro ⟨rfl, rfl⟩; rfl
structure Ask26 where
  (A B : Wit) (I K : Int)
@[reducible] def eAsk26 (a b : Wit) (i k : Int) : V := .agg [.int .i64 a.k, .int .i64 a.r, .int .i64 a.w1, .int .i64 a.w2, .int .i64 a.o, .lst (a.st.map eStp), .int .i64 a.f, .int .i64 a.s, .int .i64 b.k, .int .i64 b.r, .int .i64 b.w1, .int .i64 b.w2, .int .i64 b.o, .lst (b.st.map eStp), .int .i64 b.f, .int .i64 b.s, .int .i64 i, .int .i64 k]
def sm0 (i k : Int) (a b : Wit) : Bool := decide (i = k) && decide (a.k = b.k) && decide (a.r = b.r) && decide (a.w1 = b.w1) && decide (a.w2 = b.w2) && decide (a.o = b.o) && decide (a.f = b.f) && decide (a.s = b.s) && decide ((a.st.length : Int) = (b.st.length : Nat))
theorem sm0_t {i k : Int} {a b : Wit} (h : sm0 i k a b = true) : a.st.length = b.st.length ∧ (a.st = b.st → i = k ∧ a = b) := by
  simp only [sm0, Bool.and_eq_true, decide_eq_true_eq] at h
  obtain ⟨⟨⟨⟨⟨⟨⟨⟨a1, a2⟩, a3⟩, a4⟩, a5⟩, a6⟩, a7⟩, a8⟩, a9⟩ := h
  refine ⟨by omega, fun hs => ⟨a1, ?_⟩⟩
  cases a; cases b
  simp only at a2 a3 a4 a5 a6 a7 a8 hs
  subst a2; subst a3; subst a4; subst a5; subst a6; subst a7; subst a8; subst hs; rfl
theorem sm0_f {i k : Int} {a b : Wit} (h : sm0 i k a b = false) : ¬ (i = k ∧ a = b) := by
  rintro ⟨rfl, rfl⟩
  simp [sm0] at h
theorem eStp_inj {x y : Stp} : ([V.int .i64 x.k, .int .i64 x.a, .int .i64 x.b, .int .i64 x.c, .int .i64 x.d] = [.int .i64 y.k, .int .i64 y.a, .int .i64 y.b, .int .i64 y.c, .int .i64 y.d]) ↔ x = y := by
  cases x; cases y; simp
instance : DecidableEq Stp := fun x y => decidable_of_iff _ eStp_inj
set_option maxHeartbeats 8000000 in
theorem tellUnlike0 (a b : Wit) (i k : Int) (ha : okWit a) (hb' : okWit b) (hi : okN i) (hk : okN k) : PC T0 n.law26_TellUnlike [eAsk26 a b i k] false (.bool true) := by
  have v1 : okVd 0 0 0 0 i a := ⟨by decide, by decide, by decide, by decide, hi, ha⟩
  have v2 : okVd 0 0 0 0 k b := ⟨by decide, by decide, by decide, by decide, hk, hb'⟩
  have s1 := ha.2.1
  have s2 := hb'.2.1
  have inj := vd_inj hi hk ha hb'
  have c1 : PCon T0 n.tell_Text [eVd 0 0 0 0 i 0 0 [] [] [] a] false True (.str (vdT 0 0 0 0 i a)) := ⟨fun _ => (tell_Text 0 0 0 0 i 0 0 [] [] [] a).con v1⟩
  have c2 : PCon T0 n.tell_Text [eVd 0 0 0 0 k 0 0 [] [] [] b] false True (.str (vdT 0 0 0 0 k b)) := ⟨fun _ => (tell_Text 0 0 0 0 k 0 0 [] [] [] b).con v2⟩
  generalize vdT 0 0 0 0 i a = s at c1 inj
  generalize vdT 0 0 0 0 k b = t at c2 inj
  refine pc tabOk ?_
  repeat' first | (apply dr_fin; (focus exact xx)) | (apply dr_gt; (focus exact xx)) | (apply dr_gf; (focus exact xx); (focus first | exact .inl rfl | exact .inr rfl); focus (first | exact InD.no | (apply InD.so; (focus exact xx)))) | (apply dr_v; focus (apply DV.mk; (focus exact RF.mk rfl); (focus exact RF.mk rfl); (focus exact RF.mk rfl); (focus exact RF.mk rfl); (focus exact xx); focus (first | exact InD.no | (apply InD.so; (focus exact xx))))) | (apply dr_ve; focus (apply DVE.mk; (focus exact RF.mk rfl); (focus exact RF.mk rfl); (focus exact RF.mk rfl); (focus exact xx); focus (first | exact InD.no | (apply InD.so; (focus exact xx))))) | (apply dr_r; focus (apply DL.mk; (focus exact RF.mk rfl); (focus exact xx); (focus exact xx); focus (first | exact InD.no | (apply InD.so; (focus exact xx))))) | (apply dr_l; (focus exact RF.mk rfl); (focus exact RF.mk rfl); (focus exact RF.mk rfl); (focus exact RF.mk rfl); (focus exact RF.mk rfl)) | (apply dr_e; (focus exact RF.mk rfl); (focus exact RF.mk rfl); (focus exact RF.mk rfl); (focus exact RF.mk rfl)) | (apply rd_e; (focus exact xx); focus (repeat first | exact PO.nil | apply PO.zero | (apply PO.ld; (focus exact xx)))) | (apply rd_l; (focus exact xx)) | refine wh_seq ?_ | refine wh_skip ?_ | refine wh_block ?_ | refine wh_end ?_ | refine wh_exit ?_ | refine wh_ret ?_ | refine bk_norm ?_ | refine bk_exit ?_ | refine bk_ret ?_ | refine fr_exit ?_ | refine fr_ret ?_ | refine lp_exit ?_ | refine lp_ret ?_ | refine jn_exit ?_ | refine jn_ret ?_ | refine bk_other rfl ?_ | (apply wr; focus exact xx) | (apply wi; (focus exact xx); (focus exact xx); all_goals intro _; all_goals try first | contradiction | (exfalso; omega) | exact absurd trivial ‹_›) | refine wh_reg ?_ | refine wh_ife ?_ | (apply re; focus exact xx) | (apply rf; (focus exact xx); (focus exact xx); all_goals intro _; all_goals try first | contradiction | (exfalso; omega) | exact absurd trivial ‹_›) | (apply ra; (focus exact xx); (focus exact xx); intro _) | (apply r1; (focus exact xx); (focus exact xx); intro _) | (apply rl; (focus exact xx); (focus exact xx); intro _) | (apply rb; (focus exact xx); (focus exact xx); intro _) | (apply rsi; (focus exact xx); (focus exact xx); all_goals try infer_instance) | (apply rsz; (focus exact xx); (focus exact xx); all_goals try infer_instance) | (apply rt; (focus exact xx); (focus exact xx)) | (apply rso; (focus exact xx); (focus exact xx); all_goals try infer_instance) | (apply rmm; (focus exact xx); intro _) | (apply rsb; (focus exact xx); (focus exact xx)) | (apply ru; (focus exact xx); (focus exact xx)) | (apply rm; (focus exact xx); (focus exact xx); intro _) | (apply rk; (focus exact xx); (focus exact xx); intro _) | (apply rcf; (focus exact xx); (focus (apply ACF.mk; (focus exact xx); (focus exact inferInstance); (focus exact xx); (focus exact inferInstance); (focus exact xx); (focus exact rfl)))) | (apply rco; (focus exact xx); (focus (apply ACO.mk; (focus exact xx); (focus exact xx); (focus exact inferInstance); (focus exact xx); (focus exact xx))); intro _) | (apply rc; (focus exact xx); (focus exact xx)) | (apply rk'; (focus exact xx); (focus exact xx))
  refine wh_raw ?_
  repeat' first | (apply dr_fin; (focus exact xx)) | (apply dr_gt; (focus exact xx)) | (apply dr_gf; (focus exact xx); (focus first | exact .inl rfl | exact .inr rfl); focus (first | exact InD.no | (apply InD.so; (focus exact xx)))) | (apply dr_v; focus (apply DV.mk; (focus exact RF.mk rfl); (focus exact RF.mk rfl); (focus exact RF.mk rfl); (focus exact RF.mk rfl); (focus exact xx); focus (first | exact InD.no | (apply InD.so; (focus exact xx))))) | (apply dr_ve; focus (apply DVE.mk; (focus exact RF.mk rfl); (focus exact RF.mk rfl); (focus exact RF.mk rfl); (focus exact xx); focus (first | exact InD.no | (apply InD.so; (focus exact xx))))) | (apply dr_r; focus (apply DL.mk; (focus exact RF.mk rfl); (focus exact xx); (focus exact xx); focus (first | exact InD.no | (apply InD.so; (focus exact xx))))) | (apply dr_l; (focus exact RF.mk rfl); (focus exact RF.mk rfl); (focus exact RF.mk rfl); (focus exact RF.mk rfl); (focus exact RF.mk rfl)) | (apply dr_e; (focus exact RF.mk rfl); (focus exact RF.mk rfl); (focus exact RF.mk rfl); (focus exact RF.mk rfl)) | (apply rd_e; (focus exact xx); focus (repeat first | exact PO.nil | apply PO.zero | (apply PO.ld; (focus exact xx)))) | (apply rd_l; (focus exact xx)) | refine wh_seq ?_ | refine wh_skip ?_ | refine wh_block ?_ | refine wh_end ?_ | refine wh_exit ?_ | refine wh_ret ?_ | refine bk_norm ?_ | refine bk_exit ?_ | refine bk_ret ?_ | refine fr_exit ?_ | refine fr_ret ?_ | refine lp_exit ?_ | refine lp_ret ?_ | refine jn_exit ?_ | refine jn_ret ?_ | refine bk_other rfl ?_ | (apply wr; focus exact xx) | (apply wi; (focus exact xx); (focus exact xx); all_goals intro _; all_goals try first | contradiction | (exfalso; omega) | exact absurd trivial ‹_›) | refine wh_reg ?_ | refine wh_ife ?_ | (apply re; focus exact xx) | (apply rf; (focus exact xx); (focus exact xx); all_goals intro _; all_goals try first | contradiction | (exfalso; omega) | exact absurd trivial ‹_›) | (apply ra; (focus exact xx); (focus exact xx); intro _) | (apply r1; (focus exact xx); (focus exact xx); intro _) | (apply rl; (focus exact xx); (focus exact xx); intro _) | (apply rb; (focus exact xx); (focus exact xx); intro _) | (apply rsi; (focus exact xx); (focus exact xx); all_goals try infer_instance) | (apply rsz; (focus exact xx); (focus exact xx); all_goals try infer_instance) | (apply rt; (focus exact xx); (focus exact xx)) | (apply rso; (focus exact xx); (focus exact xx); all_goals try infer_instance) | (apply rmm; (focus exact xx); intro _) | (apply rsb; (focus exact xx); (focus exact xx)) | (apply ru; (focus exact xx); (focus exact xx)) | (apply rm; (focus exact xx); (focus exact xx); intro _) | (apply rk; (focus exact xx); (focus exact xx); intro _) | (apply rcf; (focus exact xx); (focus (apply ACF.mk; (focus exact xx); (focus exact inferInstance); (focus exact xx); (focus exact inferInstance); (focus exact xx); (focus exact rfl)))) | (apply rco; (focus exact xx); (focus (apply ACO.mk; (focus exact xx); (focus exact xx); (focus exact inferInstance); (focus exact xx); (focus exact xx))); intro _) | (apply rc; (focus exact xx); (focus exact xx)) | (apply rk'; (focus exact xx); (focus exact xx))
  · exact fz rfl
  rename_i z0 z1 z2 _
  refine wh_count a.st.length (fun n' A L => ∃ p, (p = true → sm0 i k a b = true ∧ a.st.take n' = b.st.take n') ∧ (p = false → ¬ (i = k ∧ a = b)) ∧ A = [(3, .ptr z1 8 0 0), (4, .ptr z2 8 0 0), (5, .int .i64 i), (6, .int .i64 k), (7, .bool p), (8, .int .i64 (n' : Nat))] ∧ L = [.ob z2 (.row 8 false [eWit b]), .ob z1 (.row 8 false [eWit a]), .ob z0 (.row 18 false [eAsk26 a b i k])]) ⟨_, fun h => ⟨h, rfl⟩, fun h => sm0_f h, rfl, rfl⟩ ?_
  rintro m A L hm ⟨p, hp1, hp2, rfl, rfl⟩
  cases p with
  | false =>
    have hf := hp2 rfl
    have hst : decide (s = t) = false := by rw [decide_eq_false_iff_not, inj]; exact hf
    repeat' first | (apply dr_fin; (focus exact xx)) | (apply dr_gt; (focus exact xx)) | (apply dr_gf; (focus exact xx); (focus first | exact .inl rfl | exact .inr rfl); focus (first | exact InD.no | (apply InD.so; (focus exact xx)))) | (apply dr_v; focus (apply DV.mk; (focus exact RF.mk rfl); (focus exact RF.mk rfl); (focus exact RF.mk rfl); (focus exact RF.mk rfl); (focus exact xx); focus (first | exact InD.no | (apply InD.so; (focus exact xx))))) | (apply dr_ve; focus (apply DVE.mk; (focus exact RF.mk rfl); (focus exact RF.mk rfl); (focus exact RF.mk rfl); (focus exact xx); focus (first | exact InD.no | (apply InD.so; (focus exact xx))))) | (apply dr_r; focus (apply DL.mk; (focus exact RF.mk rfl); (focus exact xx); (focus exact xx); focus (first | exact InD.no | (apply InD.so; (focus exact xx))))) | (apply dr_l; (focus exact RF.mk rfl); (focus exact RF.mk rfl); (focus exact RF.mk rfl); (focus exact RF.mk rfl); (focus exact RF.mk rfl)) | (apply dr_e; (focus exact RF.mk rfl); (focus exact RF.mk rfl); (focus exact RF.mk rfl); (focus exact RF.mk rfl)) | (apply rd_e; (focus exact xx); focus (repeat first | exact PO.nil | apply PO.zero | (apply PO.ld; (focus exact xx)))) | (apply rd_l; (focus exact xx)) | refine wh_seq ?_ | refine wh_skip ?_ | refine wh_block ?_ | refine wh_end ?_ | refine wh_exit ?_ | refine wh_ret ?_ | refine bk_norm ?_ | refine bk_exit ?_ | refine bk_ret ?_ | refine fr_exit ?_ | refine fr_ret ?_ | refine lp_exit ?_ | refine lp_ret ?_ | refine jn_exit ?_ | refine jn_ret ?_ | refine bk_other rfl ?_ | (apply wr; focus exact xx) | (apply wi; (focus exact xx); (focus exact xx); all_goals intro _; all_goals try first | contradiction | (exfalso; omega) | exact absurd trivial ‹_›) | refine wh_reg ?_ | refine wh_ife ?_ | (apply re; focus exact xx) | (apply rf; (focus exact xx); (focus exact xx); all_goals intro _; all_goals try first | contradiction | (exfalso; omega) | exact absurd trivial ‹_›) | (apply ra; (focus exact xx); (focus exact xx); intro _) | (apply r1; (focus exact xx); (focus exact xx); intro _) | (apply rl; (focus exact xx); (focus exact xx); intro _) | (apply rb; (focus exact xx); (focus exact xx); intro _) | (apply rsi; (focus exact xx); (focus exact xx); all_goals try infer_instance) | (apply rsz; (focus exact xx); (focus exact xx); all_goals try infer_instance) | (apply rt; (focus exact xx); (focus exact xx)) | (apply rso; (focus exact xx); (focus exact xx); all_goals try infer_instance) | (apply rmm; (focus exact xx); intro _) | (apply rsb; (focus exact xx); (focus exact xx)) | (apply ru; (focus exact xx); (focus exact xx)) | (apply rm; (focus exact xx); (focus exact xx); intro _) | (apply rk; (focus exact xx); (focus exact xx); intro _) | (apply rcf; (focus exact xx); (focus (apply ACF.mk; (focus exact xx); (focus exact inferInstance); (focus exact xx); (focus exact inferInstance); (focus exact xx); (focus exact rfl)))) | (apply rco; (focus exact xx); (focus (apply ACO.mk; (focus exact xx); (focus exact xx); (focus exact inferInstance); (focus exact xx); (focus exact xx))); intro _) | (apply rc; (focus exact xx); (focus exact xx)) | (apply rk'; (focus exact xx); (focus exact xx))
    · rename_i h
      exact h.2.elim
    · refine fz ?_
      rw [hst]
      rfl
  | true =>
    obtain ⟨q1, q2⟩ := hp1 rfl
    obtain ⟨q3, q4⟩ := sm0_t q1
    by_cases hlt : m < a.st.length
    · repeat' first | (apply dr_fin; (focus exact xx)) | (apply dr_gt; (focus exact xx)) | (apply dr_gf; (focus exact xx); (focus first | exact .inl rfl | exact .inr rfl); focus (first | exact InD.no | (apply InD.so; (focus exact xx)))) | (apply dr_v; focus (apply DV.mk; (focus exact RF.mk rfl); (focus exact RF.mk rfl); (focus exact RF.mk rfl); (focus exact RF.mk rfl); (focus exact xx); focus (first | exact InD.no | (apply InD.so; (focus exact xx))))) | (apply dr_ve; focus (apply DVE.mk; (focus exact RF.mk rfl); (focus exact RF.mk rfl); (focus exact RF.mk rfl); (focus exact xx); focus (first | exact InD.no | (apply InD.so; (focus exact xx))))) | (apply dr_r; focus (apply DL.mk; (focus exact RF.mk rfl); (focus exact xx); (focus exact xx); focus (first | exact InD.no | (apply InD.so; (focus exact xx))))) | (apply dr_l; (focus exact RF.mk rfl); (focus exact RF.mk rfl); (focus exact RF.mk rfl); (focus exact RF.mk rfl); (focus exact RF.mk rfl)) | (apply dr_e; (focus exact RF.mk rfl); (focus exact RF.mk rfl); (focus exact RF.mk rfl); (focus exact RF.mk rfl)) | (apply rd_e; (focus exact xx); focus (repeat first | exact PO.nil | apply PO.zero | (apply PO.ld; (focus exact xx)))) | (apply rd_l; (focus exact xx)) | refine wh_seq ?_ | refine wh_skip ?_ | refine wh_block ?_ | refine wh_end ?_ | refine wh_exit ?_ | refine wh_ret ?_ | refine bk_norm ?_ | refine bk_exit ?_ | refine bk_ret ?_ | refine fr_exit ?_ | refine fr_ret ?_ | refine lp_exit ?_ | refine lp_ret ?_ | refine jn_exit ?_ | refine jn_ret ?_ | refine bk_other rfl ?_ | (apply wr; focus exact xx) | (apply wi; (focus exact xx); (focus exact xx); all_goals intro _; all_goals try first | contradiction | (exfalso; omega) | exact absurd trivial ‹_›) | refine wh_reg ?_ | refine wh_ife ?_ | (apply re; focus exact xx) | (apply rf; (focus exact xx); (focus exact xx); all_goals intro _; all_goals try first | contradiction | (exfalso; omega) | exact absurd trivial ‹_›) | (apply ra; (focus exact xx); (focus exact xx); intro _) | (apply r1; (focus exact xx); (focus exact xx); intro _) | (apply rl; (focus exact xx); (focus exact xx); intro _) | (apply rb; (focus exact xx); (focus exact xx); intro _) | (apply rsi; (focus exact xx); (focus exact xx); all_goals try infer_instance) | (apply rsz; (focus exact xx); (focus exact xx); all_goals try infer_instance) | (apply rt; (focus exact xx); (focus exact xx)) | (apply rso; (focus exact xx); (focus exact xx); all_goals try infer_instance) | (apply rmm; (focus exact xx); intro _) | (apply rsb; (focus exact xx); (focus exact xx)) | (apply ru; (focus exact xx); (focus exact xx)) | (apply rm; (focus exact xx); (focus exact xx); intro _) | (apply rk; (focus exact xx); (focus exact xx); intro _) | (apply rcf; (focus exact xx); (focus (apply ACF.mk; (focus exact xx); (focus exact inferInstance); (focus exact xx); (focus exact inferInstance); (focus exact xx); (focus exact rfl)))) | (apply rco; (focus exact xx); (focus (apply ACO.mk; (focus exact xx); (focus exact xx); (focus exact inferInstance); (focus exact xx); (focus exact xx))); intro _) | (apply rc; (focus exact xx); (focus exact xx)) | (apply rk'; (focus exact xx); (focus exact xx))
      · refine fr_next (by omega) sbc ⟨_, ?_, ?_, rfl, rfl⟩
        · intro hp
          refine ⟨q1, ?_⟩
          simp only [decide_eq_true_eq, eStp_inj] at hp
          rw [take_nth hlt, take_nth (by omega), q2, hp]
        · intro hp
          simp only [decide_eq_false_iff_not, eStp_inj] at hp
          rintro ⟨-, rfl⟩
          exact hp rfl
      · rename_i h
        exact absurd ⟨by omega, trivial⟩ h
    · have hst : decide (s = t) = true := by
        rw [decide_eq_true_iff, inj]
        refine q4 ?_
        rwa [List.take_of_length_le (by omega), List.take_of_length_le (by omega)] at q2
      repeat' first | (apply dr_fin; (focus exact xx)) | (apply dr_gt; (focus exact xx)) | (apply dr_gf; (focus exact xx); (focus first | exact .inl rfl | exact .inr rfl); focus (first | exact InD.no | (apply InD.so; (focus exact xx)))) | (apply dr_v; focus (apply DV.mk; (focus exact RF.mk rfl); (focus exact RF.mk rfl); (focus exact RF.mk rfl); (focus exact RF.mk rfl); (focus exact xx); focus (first | exact InD.no | (apply InD.so; (focus exact xx))))) | (apply dr_ve; focus (apply DVE.mk; (focus exact RF.mk rfl); (focus exact RF.mk rfl); (focus exact RF.mk rfl); (focus exact xx); focus (first | exact InD.no | (apply InD.so; (focus exact xx))))) | (apply dr_r; focus (apply DL.mk; (focus exact RF.mk rfl); (focus exact xx); (focus exact xx); focus (first | exact InD.no | (apply InD.so; (focus exact xx))))) | (apply dr_l; (focus exact RF.mk rfl); (focus exact RF.mk rfl); (focus exact RF.mk rfl); (focus exact RF.mk rfl); (focus exact RF.mk rfl)) | (apply dr_e; (focus exact RF.mk rfl); (focus exact RF.mk rfl); (focus exact RF.mk rfl); (focus exact RF.mk rfl)) | (apply rd_e; (focus exact xx); focus (repeat first | exact PO.nil | apply PO.zero | (apply PO.ld; (focus exact xx)))) | (apply rd_l; (focus exact xx)) | refine wh_seq ?_ | refine wh_skip ?_ | refine wh_block ?_ | refine wh_end ?_ | refine wh_exit ?_ | refine wh_ret ?_ | refine bk_norm ?_ | refine bk_exit ?_ | refine bk_ret ?_ | refine fr_exit ?_ | refine fr_ret ?_ | refine lp_exit ?_ | refine lp_ret ?_ | refine jn_exit ?_ | refine jn_ret ?_ | refine bk_other rfl ?_ | (apply wr; focus exact xx) | (apply wi; (focus exact xx); (focus exact xx); all_goals intro _; all_goals try first | contradiction | (exfalso; omega) | exact absurd trivial ‹_›) | refine wh_reg ?_ | refine wh_ife ?_ | (apply re; focus exact xx) | (apply rf; (focus exact xx); (focus exact xx); all_goals intro _; all_goals try first | contradiction | (exfalso; omega) | exact absurd trivial ‹_›) | (apply ra; (focus exact xx); (focus exact xx); intro _) | (apply r1; (focus exact xx); (focus exact xx); intro _) | (apply rl; (focus exact xx); (focus exact xx); intro _) | (apply rb; (focus exact xx); (focus exact xx); intro _) | (apply rsi; (focus exact xx); (focus exact xx); all_goals try infer_instance) | (apply rsz; (focus exact xx); (focus exact xx); all_goals try infer_instance) | (apply rt; (focus exact xx); (focus exact xx)) | (apply rso; (focus exact xx); (focus exact xx); all_goals try infer_instance) | (apply rmm; (focus exact xx); intro _) | (apply rsb; (focus exact xx); (focus exact xx)) | (apply ru; (focus exact xx); (focus exact xx)) | (apply rm; (focus exact xx); (focus exact xx); intro _) | (apply rk; (focus exact xx); (focus exact xx); intro _) | (apply rcf; (focus exact xx); (focus (apply ACF.mk; (focus exact xx); (focus exact inferInstance); (focus exact xx); (focus exact inferInstance); (focus exact xx); (focus exact rfl)))) | (apply rco; (focus exact xx); (focus (apply ACO.mk; (focus exact xx); (focus exact xx); (focus exact inferInstance); (focus exact xx); (focus exact xx))); intro _) | (apply rc; (focus exact xx); (focus exact xx)) | (apply rk'; (focus exact xx); (focus exact xx))
      refine fz ?_
      rw [hst]
      rfl
instance tellUnlike (z : Ask26) : PCon T0 n.law26_TellUnlike [eAsk26 z.A z.B z.I z.K] false (okWit z.A ∧ okWit z.B ∧ okN z.I ∧ okN z.K) (.bool true) := ⟨fun ⟨h1, h2, h3, h4⟩ => tellUnlike0 z.A z.B z.I z.K h1 h2 h3 h4⟩
end Go.AM

set_option linter.unusedVariables false
set_option linter.unusedSimpArgs false
namespace Go.AM
open Go.RowKit Go.Deep Go.Proofs
attribute [-simp] List.length_flatten List.map_flatten List.map_take List.map_map List.flatten_append
abbrev gAsk : Ask26 → Wit × Wit × Int × Int := fun z => (z.A, z.B, z.I, z.K)
abbrev EAsk' : Enc Ask26 := eStruct (fCons EWitness' (fCons EWitness' (fCons (eInt .i64) (fOne (eInt .i64))))) gAsk
abbrev wtAsk (z : Ask26) : Nat := (wtWitness z.A + (wtWitness z.B + (1 + 1))) + 1
def wfAsk (z : Ask26) : Prop := wfWitness z.A ∧ wfWitness z.B ∧ (Lit.int IntKind.i64 z.I).wf = true ∧ (Lit.int IntKind.i64 z.K).wf = true
theorem tellUnlikeR (z : Ask26) : PCon T0 n.law26_TellUnlike [EAsk'.enc z] false (okWit z.A ∧ okWit z.B ∧ okN z.I ∧ okN z.K) (.bool true) := tellUnlike z
theorem tellUnlikeR_ok (z : Ask26) (hb' : wtAsk z ≤ 1048576) (hw : wfAsk z) : okWit z.A ∧ okWit z.B ∧ okN z.I ∧ okN z.K := by
  unfold wtAsk at hb'
  exact ⟨okWit_of (by omega) hw.1, okWit_of (by omega) hw.2.1, okN_of hw.2.2.1, okN_of hw.2.2.2⟩
end Go.AM

