/- Part ZK of the proof. -/
import Derived.Test.YthhgiappgpeloaaDoorZJ
import Derived.Test.YthhgiappgpeloaaDoorA3
set_option linter.unusedVariables false
set_option linter.unusedSimpArgs false
namespace Go.AM
open Go.Lib
attribute [-simp] List.length_flatten List.map_flatten List.map_take List.map_map List.flatten_append
instance ref02_Words (k : Nat) : PCon T0 n.ref02_Words [eN k] true (k ≤ 1048576) (eN ((k + 63) / 64)) := ⟨fun hk => by
  have e1 : (((k + 63 : Nat)) : Int).tdiv 64 = (((k + 63) / 64 : Nat) : Int) := Int.ofNat_tdiv (k + 63) 64
  have hq : WR .i64 ((((k + 63 : Nat)) : Int).tdiv 64) (((k + 63) / 64 : Nat) : Int) := ⟨by rw [e1]; exact w64 (by omega)⟩
  refine pc tabOk ?_
  repeat' first | (apply s'2; (focus exact w'2); all_goals intro _; all_goals try first | contradiction | (exfalso; omega) | exact absurd trivial ‹_›) | (apply s'1; (focus exact w'1); intro _) | (apply s'0; focus exact w'0) | fail
  exact fz rfl⟩
/-- No bit from k on. -/
def noB (k : Nat) (r : List Nat) (m : Nat) : Bool := (List.range m).all fun t => !hasR r (k + t)
theorem noB_step (k : Nat) (r : List Nat) (m : Nat) : noB k r (m + 1) = (noB k r m && !hasR r (k + m)) := by
  unfold noB
  rw [List.range_succ, List.all_append]
  simp
theorem noB_no {k m t : Nat} {r : List Nat} (ht : t < m) (h : hasR r (k + t) = true) : noB k r m = false := by
  cases ha : noB k r m with
  | false => rfl
  | true =>
    unfold noB at ha
    rw [List.all_eq_true] at ha
    have := ha t (List.mem_range.2 ht)
    rw [h] at this
    cases this
def rowOkB (k : Nat) (r : List Nat) : Bool := decide (r.length = (k + 63) / 64) && noB k r (64 * r.length - k)
def rightM (k : Int) (rows : List (List Nat)) : Bool := decide (0 ≤ k) && decide (k ≤ 4096) && decide ((rows.length : Int) = k) && rows.all (rowOkB k.toNat)
theorem right_n {k : Int} {rows : List (List Nat)} (h : rightM k rows = true) : k = (rows.length : Nat) ∧ rows.length ≤ 4096 := by
  simp only [rightM, Bool.and_eq_true, decide_eq_true_eq] at h
  omega
set_option maxHeartbeats 4000000 in
instance ref03_Right (k : Int) (rows : List (List Nat)) : PCon T0 n.ref03_Right [.agg [.int .i64 k, .lst (rows.map eR)]] false (rows.length ≤ 1048576 ∧ ∀ r ∈ rows, okRw r) (.bool (rightM k rows)) := ⟨fun ⟨hl, hr⟩ => by
  by_cases hk : 0 ≤ k ∧ k ≤ 4096 ∧ (rows.length : Int) = k
  · obtain ⟨h1, h2, h3⟩ := hk
    obtain ⟨N, rfl⟩ : ∃ N : Nat, k = (N : Nat) := ⟨k.toNat, by omega⟩
    have hN : rows.length = N := by omega
    have hd : rightM (N : Nat) rows = rows.all (rowOkB N) := by
      rw [rightM, decide_eq_true h1, decide_eq_true h2, decide_eq_true h3, Int.toNat_natCast]; rfl
    have c1 : PCon T0 n.ref02_Words [eN N] true True (eN ((N + 63) / 64)) := ⟨fun _ => (ref02_Words N).con (by omega)⟩
    have hq : (N + 63) / 64 ≤ 1000 := by omega
    generalize hw : (N + 63) / 64 = q at c1 hq
    refine pc tabOk ?_
    repeat' first | (apply s'2; (focus exact w'2); all_goals intro _; all_goals try first | contradiction | (exfalso; omega) | exact absurd trivial ‹_›) | (apply s'1; (focus exact w'1); intro _) | (apply s'0; focus exact w'0) | fail
    rename_i id _
    refine wh_count N (fun i A L => A = [(1, .ptr id 2 0 0), (3, eN i)] ∧ L = [.ob id (.row 2 false [.agg [eN N, .lst (rows.map eR)]])] ∧ (rows.take i).all (rowOkB N) = true) ⟨rfl, rfl, rfl⟩ ?_
    rintro i A L hi ⟨rfl, rfl, ha⟩
    by_cases hlt : i < N
    · have hlt' : i < rows.length := by omega
      have hrow := hr (nth rows i) (by rw [nth_eq hlt']; exact List.getElem_mem hlt')
      have hrl := hrow.1
      repeat' first | (apply s'2; (focus exact w'2); all_goals intro _; all_goals try first | contradiction | (exfalso; omega) | exact absurd trivial ‹_›) | (apply s'1; (focus exact w'1); intro _) | (apply s'0; focus exact w'0) | fail
      · refine fz ?_
        rw [hd, all_no hlt' (by rw [rowOkB, hw, decide_eq_false (by omega)]; rfl)]
      · rename_i hne
        have hq2 : (nth rows i).length = q := by omega
        refine wh_count (64 * (nth rows i).length - N) (fun t A L => A = [(1, .ptr id 2 0 0), (3, eN i), (4, eN (N + t))] ∧ L = [.ob id (.row 2 false [.agg [eN N, .lst (rows.map eR)]])] ∧ noB N (nth rows i) t = true) ⟨rfl, rfl, rfl⟩ ?_
        rintro t A L ht ⟨rfl, rfl, hb⟩
        by_cases hlb : t < 64 * (nth rows i).length - N
        · have c2 : PCon T0 n.ref02_Has [eR (nth rows i), eN (N + t)] false True (.bool (hasR (nth rows i) (N + t))) := ⟨fun _ => (ref02_Has (nth rows i) (N + t)).con ⟨hrow, by omega⟩⟩
          repeat' first | (apply s'2; (focus exact w'2); all_goals intro _; all_goals try first | contradiction | (exfalso; omega) | exact absurd trivial ‹_›) | (apply s'1; (focus exact w'1); intro _) | (apply s'0; focus exact w'0) | fail
          · rename_i hh
            refine fz ?_
            rw [hd, all_no hlt' (by rw [rowOkB, noB_no hlb hh, Bool.and_false])]
          · rename_i hh
            refine fr_next (by omega) sbc ⟨rfl, rfl, ?_⟩
            rw [noB_step, hb]
            simpa using hh
        · repeat' first | (apply s'2; (focus exact w'2); all_goals intro _; all_goals try first | contradiction | (exfalso; omega) | exact absurd trivial ‹_›) | (apply s'1; (focus exact w'1); intro _) | (apply s'0; focus exact w'0) | fail
          refine fr_next (by omega) sbc ⟨rfl, rfl, ?_⟩
          rw [all_st hlt', ha, rowOkB, hw, decide_eq_true hq2, show 64 * (nth rows i).length - N = t by omega, hb]
          rfl
    · repeat' first | (apply s'2; (focus exact w'2); all_goals intro _; all_goals try first | contradiction | (exfalso; omega) | exact absurd trivial ‹_›) | (apply s'1; (focus exact w'1); intro _) | (apply s'0; focus exact w'0) | fail
      refine fz ?_
      rw [hd, ← ha, show i = rows.length by omega, List.take_length]
  · have hf : rightM k rows = false := by
      cases h : rightM k rows with
      | false => rfl
      | true =>
        have := right_n h
        exact absurd ⟨by omega, by omega, by omega⟩ hk
    refine pc tabOk ?_
    repeat' first | (apply s'2; (focus exact w'2); all_goals intro _; all_goals try first | contradiction | (exfalso; omega) | exact absurd trivial ‹_›) | (apply s'1; (focus exact w'1); intro _) | (apply s'0; focus exact w'0) | fail
    exact fz (by rw [hf])⟩
def fewB (c : Crt) (w : Wit) : Bool := smC c && rightM c.n c.rows && decide (w.st.length ≤ 60)
def okCt (c : Crt) : Prop := okN c.n ∧ c.rows.length ≤ 1048576 ∧ (∀ r ∈ c.rows, okRw r) ∧ (c.arb.length ≤ 1048576 ∧ ∀ x ∈ c.arb, okN x) ∧ c.seqs.length ≤ 1048576 ∧ ∀ s ∈ c.seqs, s.length ≤ 1048576 ∧ ∀ x ∈ s, okN x
/-- A verdict. -/
structure Vrd where
  (e a i j l : Int) (c : Bool) (ct : Crt) (w : Wit)
@[reducible] def eVrd (v : Vrd) : V := .agg [.int .i64 v.e, .int .i64 v.a, .int .i64 v.i, .int .i64 v.j, .int .i64 v.l, .bool v.c, .int .i64 v.ct.l, .int .i64 v.ct.n, .lst (v.ct.rows.map eR), eIs v.ct.arb, .lst (v.ct.seqs.map eIs), .int .i64 v.w.k, .int .i64 v.w.r, .int .i64 v.w.w1, .int .i64 v.w.w2, .int .i64 v.w.o, .lst (v.w.st.map eStp), .int .i64 v.w.f, .int .i64 v.w.s]
set_option maxHeartbeats 2000000 in
instance law26_few (v : Vrd) : PCon T0 n.law26_few [eVrd v] false (okCt v.ct ∧ v.w.st.length ≤ 1048576) (.bool (fewB v.ct v.w)) := ⟨fun ⟨⟨h0, h1, h2, h3, h4, h5⟩, h6⟩ => by
  have c1 : PCon T0 n.ref24_Small [eCrt v.ct, .int .i64 16] false True (.bool (smC v.ct)) := ⟨fun _ => (ref24_Small v.ct).con ⟨h1, h3.1, h4⟩⟩
  have c2 : PCon T0 n.ref03_Right [.agg [.int .i64 v.ct.n, .lst (v.ct.rows.map eR)]] false True (.bool (rightM v.ct.n v.ct.rows)) := ⟨fun _ => (ref03_Right v.ct.n v.ct.rows).con ⟨h1, h2⟩⟩
  refine pc tabOk ?_
  repeat' first | (apply s'2; (focus exact w'2); all_goals intro _; all_goals try first | contradiction | (exfalso; omega) | exact absurd trivial ‹_›) | (apply s'1; (focus exact w'1); intro _) | (apply s'0; focus exact w'0) | fail
  refine fz ?_
  have e : ((v.w.st.length : Nat) : Int) ≤ 60 ↔ v.w.st.length ≤ 60 := by omega
  simp [fewB, e]⟩
end Go.AM

set_option linter.unusedVariables false
set_option linter.unusedSimpArgs false
namespace Go.AM
open Go.Lib
attribute [-simp] List.length_flatten List.map_flatten List.map_take List.map_map List.flatten_append
def ordT (k : Int) : List UInt8 := numT [111, 114, 100, 101, 114] [k]
def parL (p : Nat × Nat) : List Int := [(p.1 : Int), (p.2 : Int)]
def parT (p : Nat × Nat) : List UInt8 := numT [112, 97, 105, 114] (parL p)
def arbT (l : List Int) : List UInt8 := numT [97, 114, 98] l
def seqT (l : List Int) : List UInt8 := numT [115, 101, 113] l
def crtT (c : Crt) : List UInt8 := ((ordT c.n ++ (prM c.rows).flatMap parT) ++ arbT c.arb) ++ c.seqs.flatMap seqT
theorem fmx_len {α : Type} {f : α → List UInt8} {B : Nat} : ∀ {l : List α}, (∀ x ∈ l, (f x).length ≤ B) → (l.flatMap f).length ≤ B * l.length
  | [], _ => by simp
  | a :: r, h => by
    have h1 := h a (by simp)
    have h2 := fmx_len (l := r) (fun x hx => h x (by simp [hx]))
    rw [List.flatMap_cons, List.length_append, List.length_cons, Nat.mul_succ]
    omega
theorem pr_mem {rows : List (List Nat)} (h1 : rows.length ≤ 16) (h2 : ∀ r ∈ rows, r.length ≤ 4) : (prM rows).length ≤ 4096 ∧ ∀ p ∈ prM rows, p.1 ≤ 4096 ∧ p.2 ≤ 4096 := by
  have key : ∀ i, i ≤ rows.length → (prP rows i).length ≤ 256 * i := by
    intro i
    induction i with
    | zero => intro _; simp [prP]
    | succ i ih =>
      intro hi
      have e1 := ih (by omega)
      have e2 := rowL_len (nth rows i)
      have e3 := h2 (nth rows i) (by rw [nth_eq (by omega)]; exact List.getElem_mem (by omega))
      rw [prP_step, List.length_append, List.length_map]
      omega
  refine ⟨by have := key rows.length (Nat.le_refl _); unfold prP at this; unfold prM; omega, fun p hp => ?_⟩
  obtain ⟨i, hi, hp⟩ := List.mem_flatMap.1 hp
  obtain ⟨j, hj, rfl⟩ := List.mem_map.1 hp
  have hi' := List.mem_range.1 hi
  have e3 := h2 (nth rows i) (by rw [nth_eq (by omega)]; exact List.getElem_mem (by omega))
  have hj' := List.mem_range.1 (List.mem_filter.1 hj).1
  exact ⟨by show i ≤ 4096; omega, by show j ≤ 4096; omega⟩
theorem okNm_1 {nm : List UInt8} {k : Int} (h : okN k) (hn : nm.length ≤ 20) : okNm nm [k] := by
  refine ⟨by omega, by simp, fun y hy => ?_⟩
  simp only [List.mem_cons, List.not_mem_nil, or_false] at hy
  subst hy; assumption
theorem okNm_par {p : Nat × Nat} (h : p.1 ≤ 4096 ∧ p.2 ≤ 4096) : okNm [112, 97, 105, 114] (parL p) := by
  refine ⟨by decide, by simp [parL], fun y hy => ?_⟩
  simp only [parL, List.mem_cons, List.not_mem_nil, or_false] at hy
  rcases hy with rfl | rfl <;> (unfold okN; omega)
set_option maxHeartbeats 8000000 in
theorem crt_ce (pre : List HE) {id t : Nat} {bs : List UInt8} {M : List HE} {c : Crt} (h : Bd id t bs M) (ok : okCt c) (hn : c.n = (c.rows.length : Nat)) (hr1 : c.rows.length ≤ 16) (hr2 : ∀ r ∈ c.rows, r.length ≤ 4) (ha : c.arb.length ≤ 32) (hq1 : c.seqs.length ≤ 32) (hq2 : ∀ s ∈ c.seqs, s.length ≤ 32) (hb : bs.length ≤ 1000) :
    CE T0 n.tell_teller__cert [.ptr id 2 0 0, eCrt c] (pre ++ M) (fun u L' => ∃ M', Bd id t (bs ++ crtT c) M' ∧ L' = pre ++ M') := by
  obtain ⟨h0, h1, h2, h3, h4, h5⟩ := ok
  obtain ⟨pm1, pm2⟩ := pr_mem hr1 hr2
  have ok1 : okNm [111, 114, 100, 101, 114] [c.n] := okNm_1 h0 (by decide)
  have ok3 : okNm [97, 114, 98] c.arb := ⟨by decide, by omega, h3.2⟩
  have l1 := numT_len ok1
  have l3 := numT_len ok3
  simp only [List.length_cons, List.length_nil] at l1 l3
  have c1 : PCon T0 n.mat_Pairs [.agg [.int .i64 c.n, .lst (c.rows.map eR)]] true True (.lst ((prM c.rows).map eP)) := ⟨fun _ => by
    rw [hn]
    exact (mat_Pairs c.rows.length c.rows).con ⟨by omega, fun r hr => ⟨h2 r hr, by have := hr2 r hr; omega⟩⟩⟩
  have lp := fmx_len (f := parT) (B := 49) (l := prM c.rows) (fun p hp => by have := numT_len (okNm_par (pm2 p hp)); simpa [parT, parL] using this)
  have lt : ∀ i, (((prM c.rows).take i).flatMap parT).length ≤ 49 * 4096 := fun i => by
    have := fmx_len (f := parT) (B := 49) (l := (prM c.rows).take i) (fun p hp => by have := numT_len (okNm_par (pm2 p (List.take_subset _ _ hp))); simpa [parT, parL] using this)
    have e : ((prM c.rows).take i).length ≤ 4096 := by rw [List.length_take]; omega
    omega
  refine rx tabOk ?_
  have ls : ∀ i, ((c.seqs.take i).flatMap seqT).length ≤ 708 * 32 := fun i => by
    have hs : ∀ s ∈ c.seqs.take i, (seqT s).length ≤ 708 := fun s hs => by
      have hm := List.take_subset _ _ hs
      have h6 := hq2 s hm
      have := numT_len (nm := [115, 101, 113]) (l := s) ⟨by decide, by omega, (h5 s hm).2⟩
      simp only [List.length_cons, List.length_nil] at this
      unfold seqT
      omega
    have := fmx_len (f := seqT) (B := 708) (l := c.seqs.take i) hs
    have e : (c.seqs.take i).length ≤ 32 := by rw [List.length_take]; omega
    omega
  repeat' first | (apply s'2; (focus exact w'2); all_goals intro _; all_goals try first | contradiction | (exfalso; omega) | exact absurd trivial ‹_›) | (apply s'1; (focus exact w'1); intro _) | (apply s'0; focus exact w'0) | fail
  rename_i cid g
  refine rc (by exact xx) (AC.mk (by exact xx) (say_ce (l := [c.n]) (.own g 1 true [.int .i64 c.n] :: .ob cid (.row 5 false [eCrt c]) :: pre) h ok1 (by omega) (Hd.known g) (dp_ownm (f := V.int .i64) (xs := [c.n]) List.mem_cons_self (fun _ => rfl)))) ?_
  rintro _ _ ⟨M1, hM1, rfl⟩
  have hM1' : Bd id t (bs ++ ordT c.n) M1 := hM1
  have l1' : (bs ++ ordT c.n).length ≤ 1100 := by rw [List.length_append]; unfold ordT; omega
  generalize hB : bs ++ ordT c.n = b1 at hM1' l1'
  clear hM1
  repeat' first | (apply s'2; (focus exact w'2); all_goals intro _; all_goals try first | contradiction | (exfalso; omega) | exact absurd trivial ‹_›) | (apply s'1; (focus exact w'1); intro _) | (apply s'0; focus exact w'0) | fail
  refine wh_sub (L' := .ob cid (.row 5 false [eCrt c]) :: (pre ++ M1)) ?_ (List.sublist_cons_self _ _)
  refine wh_count (prM c.rows).length (fun i A L => A = [(0, .ptr id 2 0 0), (3, .ptr cid 5 0 0), (16, .lst ((prM c.rows).map eP)), (17, eN (prM c.rows).length), (18, eN i)] ∧ ∃ M, Bd id t (b1 ++ ((prM c.rows).take i).flatMap parT) M ∧ L = .ob cid (.row 5 false [eCrt c]) :: (pre ++ M)) ⟨rfl, M1, by rw [List.take_zero, List.flatMap_nil, List.append_nil]; exact hM1', rfl⟩ ?_
  rintro i A L hi ⟨rfl, M2, hM2, rfl⟩
  have li := lt i
  have lbi : (b1 ++ ((prM c.rows).take i).flatMap parT).length ≤ 300000 := by rw [List.length_append]; omega
  by_cases hlt : i < (prM c.rows).length
  · have hp := pm2 (nth (prM c.rows) i) (by rw [nth_eq hlt]; exact List.getElem_mem hlt)
    have okp := okNm_par hp
    repeat' first | (apply s'2; (focus exact w'2); all_goals intro _; all_goals try first | contradiction | (exfalso; omega) | exact absurd trivial ‹_›) | (apply s'1; (focus exact w'1); intro _) | (apply s'0; focus exact w'0) | fail
    rename_i sid g2
    refine rc (by exact xx) (AC.mk (by exact xx) (say_ce (.own g2 1 true ((parL (nth (prM c.rows) i)).map (V.int .i64)) :: .ob sid (.row 2 true [eP (nth (prM c.rows) i)]) :: .ob cid (.row 5 false [eCrt c]) :: pre) hM2 okp (by omega) (Hd.known g2) (dp_ownm List.mem_cons_self (fun _ => rfl)))) ?_
    rintro _ _ ⟨M3, hM3, rfl⟩
    repeat' first | (apply s'2; (focus exact w'2); all_goals intro _; all_goals try first | contradiction | (exfalso; omega) | exact absurd trivial ‹_›) | (apply s'1; (focus exact w'1); intro _) | (apply s'0; focus exact w'0) | fail
    refine fr_next (by omega) ((List.sublist_cons_self _ _).trans (List.sublist_cons_self _ _)) ⟨rfl, M3, ?_, rfl⟩
    rw [take_nth hlt, List.flatMap_append, ← List.append_assoc]
    simpa [parT] using hM3
  · rw [show i = (prM c.rows).length by omega, List.take_length] at hM2 lbi
    repeat' first | (apply s'2; (focus exact w'2); all_goals intro _; all_goals try first | contradiction | (exfalso; omega) | exact absurd trivial ‹_›) | (apply s'1; (focus exact w'1); intro _) | (apply s'0; focus exact w'0) | fail
    refine rc (by exact xx) (AC.mk (by exact xx) (say_ce (.ob cid (.row 5 false [eCrt c]) :: pre) hM2 ok3 (by omega) rfl (dp_d rfl))) ?_
    rintro _ _ ⟨M3, hM3, rfl⟩
    have hM3' : Bd id t ((b1 ++ (prM c.rows).flatMap parT) ++ arbT c.arb) M3 := hM3
    have l2 : ((b1 ++ (prM c.rows).flatMap parT) ++ arbT c.arb).length ≤ 310000 := by rw [List.length_append]; unfold arbT; omega
    clear hM3
    generalize hC : (b1 ++ (prM c.rows).flatMap parT) ++ arbT c.arb = b2 at hM3' l2
    repeat' first | (apply s'2; (focus exact w'2); all_goals intro _; all_goals try first | contradiction | (exfalso; omega) | exact absurd trivial ‹_›) | (apply s'1; (focus exact w'1); intro _) | (apply s'0; focus exact w'0) | fail
    refine wh_sub (L' := pre ++ M3) ?_ (List.sublist_cons_self _ _)
    refine wh_count c.seqs.length (fun i A L => A = [(0, .ptr id 2 0 0), (35, .lst (c.seqs.map eIs)), (36, eN c.seqs.length), (37, eN i)] ∧ ∃ M, Bd id t (b2 ++ (c.seqs.take i).flatMap seqT) M ∧ L = pre ++ M) ⟨rfl, M3, by rw [List.take_zero, List.flatMap_nil, List.append_nil]; exact hM3', rfl⟩ ?_
    rintro q A L hq ⟨rfl, M4, hM4, rfl⟩
    have lq := ls q
    have lbq : (b2 ++ (c.seqs.take q).flatMap seqT).length ≤ 400000 := by rw [List.length_append]; omega
    by_cases hlq : q < c.seqs.length
    · have hm : nth c.seqs q ∈ c.seqs := by rw [nth_eq hlq]; exact List.getElem_mem hlq
      have okq : okNm [115, 101, 113] (nth c.seqs q) := ⟨by decide, by have := hq2 _ hm; omega, (h5 _ hm).2⟩
      repeat' first | (apply s'2; (focus exact w'2); all_goals intro _; all_goals try first | contradiction | (exfalso; omega) | exact absurd trivial ‹_›) | (apply s'1; (focus exact w'1); intro _) | (apply s'0; focus exact w'0) | fail
      refine rc (by exact xx) (AC.mk (by exact xx) (say_ce pre hM4 okq (by omega) rfl (dp_d rfl))) ?_
      rintro _ _ ⟨M5, hM5, rfl⟩
      repeat' first | (apply s'2; (focus exact w'2); all_goals intro _; all_goals try first | contradiction | (exfalso; omega) | exact absurd trivial ‹_›) | (apply s'1; (focus exact w'1); intro _) | (apply s'0; focus exact w'0) | fail
      refine fr_next (by omega) sbc ⟨rfl, M5, ?_, rfl⟩
      rw [take_nth hlq, List.flatMap_append, ← List.append_assoc]
      simpa [seqT] using hM5
    · repeat' first | (apply s'2; (focus exact w'2); all_goals intro _; all_goals try first | contradiction | (exfalso; omega) | exact absurd trivial ‹_›) | (apply s'1; (focus exact w'1); intro _) | (apply s'0; focus exact w'0) | fail
      refine ⟨.inl rfl, [], by exact xx, M4, ?_, rfl⟩
      rw [crtT, ← List.append_assoc, ← List.append_assoc, ← List.append_assoc, hB, hC]
      rwa [show q = c.seqs.length by omega, List.take_length] at hM4
end Go.AM

set_option linter.unusedVariables false
set_option linter.unusedSimpArgs false
namespace Go.AM
open Go.Lib
attribute [-simp] List.length_flatten List.map_flatten List.map_take List.map_map List.flatten_append
instance ref26_Numbers (nm : List UInt8) (l : List Int) : PCon T0 n.ref26_Numbers [.str nm, eIs l] false (okNm nm l) (.str (numT nm l)) := ⟨fun ok => by
  obtain ⟨h1, h2, h3⟩ := ok
  refine pc tabOk ?_
  repeat' first | (apply s'2; (focus exact w'2); all_goals intro _; all_goals try first | contradiction | (exfalso; omega) | exact absurd trivial ‹_›) | (apply s'1; (focus exact w'1); intro _) | (apply s'0; focus exact w'0) | fail
  refine wh_count l.length (fun i A L => ∃ s, s = nm ++ (l.take i).flatMap (fun x => 32 :: itoa x) ∧ A = [(1, eIs l), (5, .str s), (6, eN i)] ∧ L = []) ⟨_, by rw [List.take_zero, List.flatMap_nil, List.append_nil], rfl, rfl⟩ ?_
  rintro i A L hi ⟨s, hs, rfl, rfl⟩
  have hsl : s.length ≤ 1048576 + 22 * i := by
    have := fm_len (l := l.take i) (fun x hx => h3 x (List.take_subset _ _ hx))
    rw [List.length_take, Nat.min_eq_left hi] at this
    rw [hs, List.length_append]; omega
  by_cases hlt : i < l.length
  · have hx : okN (nth l i) := h3 _ (by rw [nth_eq hlt]; exact List.getElem_mem hlt)
    have hil := itoa_len hx
    have hput : PCon T0 n.ref05_Put [.int .i64 (nth l i)] true True (.str (itoa (nth l i))) := ⟨fun _ => (ref05_Put (nth l i)).con hx⟩
    have hst : (s ++ [32]).length = s.length + 1 := by rw [List.length_append]; rfl
    generalize hy : itoa (nth l i) = y at hput hil
    repeat' first | (apply s'2; (focus exact w'2); all_goals intro _; all_goals try first | contradiction | (exfalso; omega) | exact absurd trivial ‹_›) | (apply s'1; (focus exact w'1); intro _) | (apply s'0; focus exact w'0) | fail
    refine fr_next (by omega) sbc ⟨_, ?_, rfl, rfl⟩
    rw [take_nth hlt, hs, ← hy]
    simp
  · repeat' first | (apply s'2; (focus exact w'2); all_goals intro _; all_goals try first | contradiction | (exfalso; omega) | exact absurd trivial ‹_›) | (apply s'1; (focus exact w'1); intro _) | (apply s'0; focus exact w'0) | fail
    refine fz ?_
    rw [numT, hs, show i = l.length by omega, List.take_length]⟩
theorem join_snoc (l : List (List UInt8)) (x : List UInt8) : join (l ++ [x]) [32] = (if 0 < l.length then join l [32] ++ [32] else []) ++ x := by
  cases l with
  | nil => simp [join_one]
  | cons a r =>
    rw [List.cons_append, join_cons, join_cons, if_pos (by simp)]
    simp [joinTail, List.flatten_append]
def sumB (l : List (List UInt8)) : Nat := (l.map List.length).foldr (· + ·) 0
theorem join_len (l : List (List UInt8)) : (join l [32]).length ≤ sumB l + l.length := by
  cases l with
  | nil => simp [join_nil, sumB]
  | cons a r =>
    rw [join_cons]
    have : ∀ r : List (List UInt8), (joinTail [32] r).length ≤ sumB r + r.length := by
      intro r
      induction r with
      | nil => simp [joinTail]
      | cons a r ih =>
        have e : joinTail [32] (a :: r) = (32 :: a) ++ joinTail [32] r := by simp [joinTail]
        rw [e, List.length_append, List.length_cons, List.length_cons]
        unfold sumB at ih ⊢
        simp only [List.map_cons, List.foldr_cons]
        omega
    have h := this r
    rw [List.length_append, List.length_cons]
    unfold sumB at h ⊢
    simp only [List.map_cons, List.foldr_cons]
    omega
theorem sum_take (l : List (List UInt8)) : ∀ i, sumB (l.take i) ≤ sumB l := by
  induction l with
  | nil => intro i; simp
  | cons a r ih =>
    intro i
    cases i with
    | zero => simp [sumB]
    | succ i =>
      have := ih i
      unfold sumB at this ⊢
      simp only [List.take_succ_cons, List.map_cons, List.foldr_cons]
      omega
theorem sum_mem {l : List (List UInt8)} {x : List UInt8} (h : x ∈ l) : x.length ≤ sumB l := by
  induction l with
  | nil => cases h
  | cons a r ih =>
    unfold sumB at ih ⊢
    simp only [List.map_cons, List.foldr_cons]
    rcases List.mem_cons.1 h with rfl | h
    · omega
    · have := ih h; omega
instance ref26_Line (l : List (List UInt8)) : PCon T0 n.ref26_Line [.lst (l.map V.str)] false (l.length ≤ 1048576 ∧ sumB l ≤ 1048576) (.str (join l [32] ++ [10])) := ⟨fun ⟨h1, h2⟩ => by
  refine pc tabOk ?_
  repeat' first | (apply s'2; (focus exact w'2); all_goals intro _; all_goals try first | contradiction | (exfalso; omega) | exact absurd trivial ‹_›) | (apply s'1; (focus exact w'1); intro _) | (apply s'0; focus exact w'0) | fail
  refine wh_count l.length (fun i A L => ∃ s, s = join (l.take i) [32] ∧ A = [(0, .lst (l.map V.str)), (3, .str s), (4, eN i)] ∧ L = []) ⟨_, by rw [List.take_zero]; rfl, rfl, rfl⟩ ?_
  rintro i A L hi ⟨s, hs, rfl, rfl⟩
  have hsl : s.length ≤ 1048576 + i := by
    have e1 := join_len (l.take i)
    have e2 := sum_take l i
    rw [List.length_take] at e1
    rw [hs]; omega
  by_cases hlt : i < l.length
  · have hx := sum_mem (l := l) (x := nth l i) (by rw [nth_eq hlt]; exact List.getElem_mem hlt)
    have hst : (s ++ [32]).length = s.length + 1 := by rw [List.length_append]; rfl
    have hti : (l.take i).length = i := by rw [List.length_take]; omega
    have hstep := join_snoc (l.take i) (nth l i)
    rw [hti, ← take_nth hlt, ← hs] at hstep
    repeat' first | (apply s'2; (focus exact w'2); all_goals intro _; all_goals try first | contradiction | (exfalso; omega) | exact absurd trivial ‹_›) | (apply s'1; (focus exact w'1); intro _) | (apply s'0; focus exact w'0) | fail
    · refine fr_next (by omega) sbc ⟨_, ?_, rfl, rfl⟩
      rw [hstep, if_pos (by omega)]
    · refine fr_next (by omega) sbc ⟨_, ?_, rfl, rfl⟩
      have h0 : i = 0 := by omega
      rw [hstep, if_neg (by omega), hs, h0]
      rfl
  · repeat' first | (apply s'2; (focus exact w'2); all_goals intro _; all_goals try first | contradiction | (exfalso; omega) | exact absurd trivial ‹_›) | (apply s'1; (focus exact w'1); intro _) | (apply s'0; focus exact w'0) | fail
    refine fz ?_
    rw [hs, show i = l.length by omega, List.take_length]⟩
end Go.AM

set_option linter.unusedVariables false
set_option linter.unusedSimpArgs false
namespace Go.AM
open Go.Lib
attribute [-simp] List.length_flatten List.map_flatten List.map_take List.map_map List.flatten_append
def conT (l : Int) : List UInt8 := numT [99, 111, 110, 115, 105, 115, 116, 101, 110, 116] [l]
def vrT (v : Vrd) : List UInt8 := if v.e = 0 then (if v.c = true then conT v.l ++ crtT v.ct else incT v.l ++ witT v.w) else errT v.e v.a v.i v.j
def okV (v : Vrd) : Prop := okN v.e ∧ okN v.a ∧ okN v.i ∧ okN v.j ∧ okN v.l ∧ okCt v.ct ∧ okWit v.w
theorem few_get {c : Crt} {w : Wit} (h : fewB c w = true) : c.n = (c.rows.length : Nat) ∧ c.rows.length ≤ 16 ∧ (∀ r ∈ c.rows, r.length ≤ 4) ∧ c.arb.length ≤ 32 ∧ c.seqs.length ≤ 32 ∧ (∀ s ∈ c.seqs, s.length ≤ 32) ∧ w.st.length ≤ 60 := by
  simp only [fewB, smC, smM, Bool.and_eq_true, decide_eq_true_eq, List.all_eq_true] at h
  obtain ⟨⟨⟨⟨⟨⟨h1, h2⟩, h3⟩, h4⟩, h5⟩, h6⟩, h7⟩ := h
  exact ⟨(right_n h6).1, h1, h2, h3, h4, h5, h7⟩
theorem crtT_len {c : Crt} (ok : okCt c) (hr1 : c.rows.length ≤ 16) (hr2 : ∀ r ∈ c.rows, r.length ≤ 4) (ha : c.arb.length ≤ 32) (hq1 : c.seqs.length ≤ 32) (hq2 : ∀ s ∈ c.seqs, s.length ≤ 32) : (crtT c).length ≤ 1000000 := by
  obtain ⟨h0, h1, h2, h3, h4, h5⟩ := ok
  obtain ⟨pm1, pm2⟩ := pr_mem hr1 hr2
  have l1 := numT_len (okNm_1 (nm := [111, 114, 100, 101, 114]) h0 (by decide))
  have l3 := numT_len (nm := [97, 114, 98]) (l := c.arb) ⟨by decide, by omega, h3.2⟩
  simp only [List.length_cons, List.length_nil] at l1 l3
  have lp := fmx_len (f := parT) (B := 49) (l := prM c.rows) (fun p hp => by have := numT_len (okNm_par (pm2 p hp)); simpa [parT, parL] using this)
  have ls := fmx_len (f := seqT) (B := 708) (l := c.seqs) (fun s hm => by
    have h6 := hq2 s hm
    have := numT_len (nm := [115, 101, 113]) (l := s) ⟨by decide, by omega, (h5 s hm).2⟩
    simp only [List.length_cons, List.length_nil] at this
    unfold seqT
    omega)
  unfold crtT ordT arbT
  rw [List.length_append, List.length_append, List.length_append]
  omega
set_option maxHeartbeats 8000000 in
instance tell_TextV (v : Vrd) : PCon T0 n.tell_Text [eVrd v] false (okV v ∧ fewB v.ct v.w = true) (.str (vrT v)) := ⟨fun ⟨⟨h1, h2, h3, h4, h5, oc, ow⟩, hf⟩ => by
  obtain ⟨e, a, i, j, l, c, ct, w⟩ := v
  cases c with
  | false =>
    have := (tell_Text e a i j l ct.l ct.n (ct.rows.map eR) (ct.arb.map (V.int .i64)) (ct.seqs.map eIs) w).con ⟨h1, h2, h3, h4, h5, ow⟩
    have e1 : vrT ⟨e, a, i, j, l, false, ct, w⟩ = vdT e a i j l w := by
      unfold vrT vdT
      simp
    rw [e1]
    exact this
  | true =>
    obtain ⟨f1, f2, f3, f4, f5, f6, f7⟩ := few_get hf
    have hel := numT_len (okNm_err h1 h2 h3 h4)
    have okc : okNm [99, 111, 110, 115, 105, 115, 116, 101, 110, 116] [l] := okNm_1 h5 (by decide)
    have hcl := numT_len okc
    have hkl := crtT_len oc f2 f3 f4 f5 f6
    refine pc tabOk ?_
    repeat' first | (apply s'2; (focus exact w'2); all_goals intro _; all_goals try first | contradiction | (exfalso; omega) | exact absurd trivial ‹_›) | (apply s'1; (focus exact w'1); intro _) | (apply s'0; focus exact w'0) | fail
    rename_i vid
    refine rmB (by exact xx) (by exact xx) ?_
    intro id
    refine rs_perm (L' := [.ob vid (.row 19 false [eVrd ⟨e, a, i, j, l, true, ct, w⟩])] ++ [.ob id (.trow 70 true [.nilp, .nil])]) swap2 ?_
    have hM : Bd id 70 [] [.ob id (.trow 70 true [.nilp, .nil])] := Bd.new (.inr rfl)
    generalize [HE.ob id (.trow 70 true [.nilp, .nil])] = M at hM ⊢
    repeat' first | (apply s'2; (focus exact w'2); all_goals intro _; all_goals try first | contradiction | (exfalso; omega) | exact absurd trivial ‹_›) | (apply s'1; (focus exact w'1); intro _) | (apply s'0; focus exact w'0) | fail
    · rename_i hne g
      refine rc (by exact xx) (AC.mk (by exact xx) (say_ce [.own g 1 true ((errL e a i j).map (V.int .i64)), .ob vid (.row 19 false [eVrd ⟨e, a, i, j, l, true, ct, w⟩])] hM (okNm_err h1 h2 h3 h4) (by simp) (Hd.known g) (dp_ownm List.mem_cons_self (fun _ => rfl)))) ?_
      rintro _ _ ⟨M1, hM1, rfl⟩
      repeat' first | (apply s'2; (focus exact w'2); all_goals intro _; all_goals try first | contradiction | (exfalso; omega) | exact absurd trivial ‹_›) | (apply s'1; (focus exact w'1); intro _) | (apply s'0; focus exact w'0) | fail
      refine rc (by exact xx) (AC.mk (by exact xx) (st_ce [.own g 1 true ((errL e a i j).map (V.int .i64)), .ob vid (.row 19 false [eVrd ⟨e, a, i, j, l, true, ct, w⟩])] hM1 (by rw [List.nil_append]; simp only [List.length_cons, List.length_nil, errL] at hel; simp only [errL]; omega))) ?_
      rintro _ _ ⟨rfl, rfl⟩
      repeat' first | (apply s'2; (focus exact w'2); all_goals intro _; all_goals try first | contradiction | (exfalso; omega) | exact absurd trivial ‹_›) | (apply s'1; (focus exact w'1); intro _) | (apply s'0; focus exact w'0) | fail
      refine fz ?_
      rw [vrT, if_neg (show ¬ e = 0 by first | exact hne | simpa using hne)]
      rfl
    · rename_i g
      refine rc (by exact xx) (AC.mk (by exact xx) (say_ce (l := [l]) [.own g 1 true [.int .i64 l], .ob vid (.row 19 false [eVrd ⟨e, a, i, j, l, true, ct, w⟩])] hM okc (by simp) (Hd.known g) (dp_ownm (f := V.int .i64) (xs := [l]) List.mem_cons_self (fun _ => rfl)))) ?_
      rintro _ _ ⟨M1, hM1, rfl⟩
      repeat' first | (apply s'2; (focus exact w'2); all_goals intro _; all_goals try first | contradiction | (exfalso; omega) | exact absurd trivial ‹_›) | (apply s'1; (focus exact w'1); intro _) | (apply s'0; focus exact w'0) | fail
      refine rc (by exact xx) (AC.mk (by exact xx) (crt_ce [.own g 1 true [.int .i64 l], .ob vid (.row 19 false [eVrd ⟨e, a, i, j, l, true, ct, w⟩])] hM1 oc f1 f2 f3 f4 f5 f6 (by rw [List.nil_append]; simp only [List.length_cons, List.length_nil] at hcl; omega))) ?_
      rintro _ _ ⟨M2, hM2, rfl⟩
      repeat' first | (apply s'2; (focus exact w'2); all_goals intro _; all_goals try first | contradiction | (exfalso; omega) | exact absurd trivial ‹_›) | (apply s'1; (focus exact w'1); intro _) | (apply s'0; focus exact w'0) | fail
      refine rc (by exact xx) (AC.mk (by exact xx) (st_ce [.own g 1 true [.int .i64 l], .ob vid (.row 19 false [eVrd ⟨e, a, i, j, l, true, ct, w⟩])] hM2 (by rw [List.nil_append, List.length_append]; simp only [List.length_cons, List.length_nil] at hcl; omega))) ?_
      rintro _ _ ⟨rfl, rfl⟩
      repeat' first | (apply s'2; (focus exact w'2); all_goals intro _; all_goals try first | contradiction | (exfalso; omega) | exact absurd trivial ‹_›) | (apply s'1; (focus exact w'1); intro _) | (apply s'0; focus exact w'0) | fail
      refine fz ?_
      rw [vrT, if_pos (show e = 0 by first | omega | (apply Decidable.of_not_not; assumption) | (rename_i hq _; trace_state; exact Decidable.of_not_not hq)), if_pos rfl]
      rfl⟩
end Go.AM

set_option linter.unusedVariables false
set_option linter.unusedSimpArgs false
namespace Go.AM
open Go.Lib
attribute [-simp] List.length_flatten List.map_flatten List.map_take List.map_map List.flatten_append
/-! The end of a region of open order, where memory stays as it is: whatever must read the same does. -/
structure DQ (T : Nat → Option Fn) (ops : List AO) (A : Sl) (L : List HE) (K : Sl → List HE → Prop) : Prop where
  run : ∀ H, HP H L → ∀ (ps : List Pend) sl, (∀ p ∈ ps, p.2 = 0 ∨ p.1 H = true) → Low A sl → okOps sl.length ops = true → ∃ n sl' H', (∀ m, n ≤ m → runDraw (callN T m) ops ps (sl, H) = some (sl', H')) ∧ sl'.length = sl.length ∧ ∃ A' L', Low A' sl' ∧ HP H' L' ∧ K A' L'
section
variable {T : Nat → Option Fn} {A A' : Sl} {L : List HE} {o : AO} {r : List AO} {PS : List Pd} {K : Sl → List HE → Prop}
theorem again_of {ps : List Pend} {H : Heap} (h : ∀ p ∈ ps, p.2 = 0 ∨ p.1 H = true) : again ps H = true := by
  simp only [again, List.all_eq_true, Bool.or_eq_true, beq_iff_eq]
  exact h
theorem of_again {ps : List Pend} {H : Heap} (h : again ps H = true) : ∀ p ∈ ps, p.2 = 0 ∨ p.1 H = true := by
  simpa only [again, List.all_eq_true, Bool.or_eq_true, beq_iff_eq] using h
theorem lower_of {ps : List Pend} {H : Heap} (h : ∀ p ∈ ps, p.2 = 0 ∨ p.1 H = true) : ∀ p ∈ lower ps, p.2 = 0 ∨ p.1 H = true := fun p hp => by
  obtain ⟨q, hq, rfl⟩ := List.mem_map.1 hp
  rcases h q hq with h | h
  · exact .inl (by show q.2 - 1 = 0; omega)
  · exact .inr h
theorem dq_nil (h : K A L) : DQ T [] A L K := ⟨fun H hp ps sl _ hl _ => ⟨0, sl, H, fun _ _ => rfl, rfl, A, L, hl, hp, h⟩⟩
theorem dq_v {v : V} (h1 : DV T A L o v A') (h : DQ T r A' L K) : DQ T (o :: r) A L K := by
  refine ⟨fun H hp ps sl hps hlow ok => ?_⟩
  cases h1 with
  | mk hx hg hE hr he hA =>
    simp only [okOps, List.all_cons, Bool.and_eq_true] at ok
    obtain ⟨n, hn⟩ := plain_run hx.h hg.h (he H hp) hlow ok.1
    have hnp : newPend o (sl, H) (putD sl o.dst v, H) = [] := by
      unfold newPend
      have := hr.h
      simp only [plainRe, Bool.or_eq_true, beq_iff_eq] at this
      rcases this with h | h
      · rw [if_pos h]
      · split
        · rfl
        · split
          · rename_i ho _; rw [ho] at h; cases h
          · rename_i ho _; rw [ho] at h; cases h
          · rfl
    have := hA.eq
    subst this
    obtain ⟨n2, sl', H', k1, k2, k3⟩ := h.run H hp ps (putD sl o.dst v) hps (low_insD hlow ok.1) (by rw [putD_len]; exact ok.2)
    exact ⟨max n n2, sl', H', fun m hm => by
      simp only [runDraw, hn m (by omega), Option.bind_some, hE.h, Bool.false_eq_true, if_false, hnp, List.nil_append]
      exact k1 m (by omega), by rw [k2, putD_len], k3⟩
theorem dq_ve {v : V} (h1 : DVE T A L o v A') (h : DQ T r A' L K) : DQ T (o :: r) A L K := by
  refine ⟨fun H hp ps sl hps hlow ok => ?_⟩
  cases h1 with
  | mk hx hg hE he hA =>
    simp only [okOps, List.all_cons, Bool.and_eq_true] at ok
    obtain ⟨n, hn⟩ := plain_run hx.h hg.h (he H hp) hlow ok.1
    have := hA.eq
    subst this
    obtain ⟨n2, sl', H', k1, k2, k3⟩ := h.run H hp (lower ps) (putD sl o.dst v) (lower_of hps) (low_insD hlow ok.1) (by rw [putD_len]; exact ok.2)
    exact ⟨max n n2, sl', H', fun m hm => by
      simp only [runDraw, hn m (by omega), Option.bind_some, hE.h, if_true, again_of hps]
      exact k1 m (by omega), by rw [k2, putD_len], k3⟩
/-- Something new, that must read the same behind it: from here on memory stays as it is. -/
theorem dr_lq {x : XOp} {xs : List Opd} {es : List E} {lo : LOp} (hx : RF (XOp.of o.op = some (x, xs))) (ho : RF (opdEs [] TT xs = some es)) (hg : RF (o.guard = none)) (hl : RF (o.op = .l lo))
    (h : RS T false [.eff [] allM o.dst x es] allM [] [] A L fun _ A' L' => PO L' PS ∧ DQ T r A' L' K) : DR T (o :: r) PS A L K := by
  refine ⟨fun H hp ps sl hps hlow ok => ?_⟩
  simp only [okOps, List.all_cons, Bool.and_eq_true] at ok
  obtain ⟨n, v, H', A', L', h1, h2, h3, h4, h5⟩ := eff_run hx.h ho.h hg.h hlow ok.1 hp h
  have hE : isE o.op = false := by rw [hl.h]; rfl
  have hq : ∀ p ∈ newPend o (sl, H) (putD sl o.dst v, H') ++ ps, p.2 = 0 ∨ p.1 H' = true := fun p hp' => by
    rcases List.mem_append.1 hp' with hp' | hp'
    · unfold newPend at hp'
      split at hp'
      · cases hp'
      · rw [hl.h, hg.h] at hp'
        simp only [wants, List.mem_singleton] at hp'
        subst hp'
        exact .inr (by simp)
    · exact of_again (h4.again h3 hps) p hp'
  obtain ⟨n2, sl', H2, k1, k2, k3⟩ := h5.run H' h3 _ (putD sl o.dst v) hq h2 (by rw [putD_len]; exact ok.2)
  exact ⟨max n n2, sl', H2, fun m hm => by
    simp only [runDraw, h1 m (by omega), Option.bind_some, hE, Bool.false_eq_true, if_false]
    exact k1 m (by omega), by rw [k2, putD_len], k3⟩
theorem rd_q (hr : AR T A L [] allM A') (hp : PO L PS) (h : DQ T r A' L K) : RS T false [] allM [] [] A L fun _ A' L' => PO L' PS ∧ DQ T r A' L' K := by
  obtain ⟨ws, hd, hA⟩ := hr.get
  exact rs_nil ev_nil hd hA ⟨hp, h⟩
variable {fx : FX} {Q : X → Sl → List HE → Prop} {rr : List BC} {lv : Mask}
theorem dq_fin (hk : Keep lv A A') (h : WH T fx false rr A' L Q) : DQ T [] A L fun A' L' => WH T fx false rr (keepM lv A') L' Q := dq_nil (by rw [hk.eq]; exact h)
end
set_option maxHeartbeats 8000000 in
theorem ref26_Text_e (e a i j l : Int) (c : Bool) (ct : Crt) (w : Wit) (he : ¬ e = 0) (h1 : okN e) (h2 : okN a) (h3 : okN i) (h4 : okN j) : PC T0 n.ref26_Text [eVrd ⟨e, a, i, j, l, c, ct, w⟩] false (.str (errT e a i j)) := by
  have hel := numT_len (okNm_err h1 h2 h3 h4)
  have c1 : PCon T0 n.ref26_Numbers [.str [101, 114, 114, 111, 114], eIs (errL e a i j)] false True (.str (errT e a i j)) := ⟨fun _ => (ref26_Numbers [101, 114, 114, 111, 114] (errL e a i j)).con (okNm_err h1 h2 h3 h4)⟩
  refine pc tabOk ?_
  repeat' first | (apply s'2; (focus exact w'2); all_goals intro _; all_goals try first | contradiction | (exfalso; omega) | exact absurd trivial ‹_›) | (apply s'1; (focus exact w'1); intro _) | (apply s'0; focus exact w'0) | fail
  exact fz rfl
set_option maxHeartbeats 8000000 in
theorem ref26_Text_i (a i j l : Int) (ct : Crt) (w : Wit) (h5 : okN l) (ow : okWit w) : PC T0 n.ref26_Text [eVrd ⟨0, a, i, j, l, false, ct, w⟩] false (.str (incT l ++ witT w)) := by
  have l1 := numT_len (okNm_inc h5)
  have l2 := patT_len ow
  have l3 := ow.2.1
  have c1 : PCon T0 n.ref26_Numbers [.str [105, 110, 99, 111, 110, 115, 105, 115, 116, 101, 110, 116], eIs [l]] false True (.str (incT l)) := ⟨fun _ => (ref26_Numbers _ [l]).con (okNm_inc h5)⟩
  have c2 : PCon T0 n.ref26_Numbers [.str [112, 97, 116, 116, 101, 114, 110], eIs (patL w)] false True (.str (patT w)) := ⟨fun _ => (ref26_Numbers _ (patL w)).con (okNm_pat ow)⟩
  have l1' : (incT l).length ≤ 100 := by
    simp only [List.length_cons, List.length_nil] at l1
    unfold incT; omega
  have hw : witT w = patT w ++ w.st.flatMap stT := rfl
  rw [hw]
  generalize incT l = t1 at c1 l1' ⊢
  generalize patT w = t2 at c2 l2 ⊢
  refine pc tabOk ?_
  repeat' first | (apply s'2; (focus exact w'2); all_goals intro _; all_goals try first | contradiction | (exfalso; omega) | exact absurd trivial ‹_›) | (apply s'1; (focus exact w'1); intro _) | (apply s'0; focus exact w'0) | fail
  refine wh_raw ?_
  repeat' first | (apply s'2; (focus exact w'2); all_goals intro _; all_goals try first | contradiction | (exfalso; omega) | exact absurd trivial ‹_›) | (apply s'1; (focus exact w'1); intro _) | (apply s'0; focus exact w'0) | fail
  refine dr_lq ⟨rfl⟩ ⟨rfl⟩ ⟨rfl⟩ ⟨rfl⟩ ?_
  repeat' first | (apply s'1; (focus exact w'1); intro _) | (apply s'0; focus exact w'v) | fail
  refine rd_q (by exact xx) (by repeat first | exact PO.nil | apply PO.zero | (apply PO.ld; (focus exact xx))) ?_
  refine dq_ve (DVE.mk ⟨rfl⟩ ⟨rfl⟩ ⟨rfl⟩ (by exact xx) (by first | exact InD.no | (apply InD.so; exact xx))) ?_
  refine dq_ve (DVE.mk ⟨rfl⟩ ⟨rfl⟩ ⟨rfl⟩ (by exact xx) (by first | exact InD.no | (apply InD.so; exact xx))) ?_
  refine dq_v (DV.mk ⟨rfl⟩ ⟨rfl⟩ ⟨rfl⟩ ⟨rfl⟩ (by exact xx) (by first | exact InD.no | (apply InD.so; exact xx))) ?_
  refine dq_v (DV.mk ⟨rfl⟩ ⟨rfl⟩ ⟨rfl⟩ ⟨rfl⟩ (by exact xx) (by first | exact InD.no | (apply InD.so; exact xx))) ?_
  refine dq_fin (by exact xx) ?_
  repeat' first | (apply s'2; (focus exact w'2); all_goals intro _; all_goals try first | contradiction | (exfalso; omega) | exact absurd trivial ‹_›) | (apply s'1; (focus exact w'1); intro _) | (apply s'0; focus exact w'0) | fail
  rename_i vid _ _ wid g1 g2
  refine wh_sub (L' := [.ob wid (.row 8 false [eWit w])]) ?_ (by exact sbc)
  refine wh_count w.st.length (fun i A L => ∃ s, s = (t1 ++ t2) ++ (w.st.take i).flatMap stT ∧ A = [(3, .ptr wid 8 0 0), (4, .str s), (5, eN i)] ∧ L = [.ob wid (.row 8 false [eWit w])]) ⟨_, by rw [List.take_zero, List.flatMap_nil, List.append_nil], rfl, rfl⟩ ?_
  rintro i A L hi ⟨s, hs, rfl, rfl⟩
  have hsl : s.length ≤ 262 + 115 * i := by
    have := sts_len (l := w.st.take i) (fun x hx => ow.2.2 x (List.take_subset _ _ hx))
    rw [List.length_take, Nat.min_eq_left hi] at this
    rw [hs, List.length_append, List.length_append]; omega
  by_cases hlt : i < w.st.length
  · have hx : okStp (nth w.st i) := ow.2.2 _ (by rw [nth_eq hlt]; exact List.getElem_mem hlt)
    have c3 : PCon T0 n.ref26_Numbers [.str [115, 116, 101, 112], eIs (stL (nth w.st i))] false True (.str (stT (nth w.st i))) := ⟨fun _ => (ref26_Numbers _ (stL (nth w.st i))).con (okNm_st hx)⟩
    have c3l := stT_len hx
    generalize hy : stT (nth w.st i) = y at c3 c3l
    repeat' first | (apply s'2; (focus exact w'2); all_goals intro _; all_goals try first | contradiction | (exfalso; omega) | exact absurd trivial ‹_›) | (apply s'1; (focus exact w'1); intro _) | (apply s'0; focus exact w'0) | fail
    refine fr_next (by omega) ((List.sublist_cons_self _ _).trans (List.sublist_cons_self _ _)) ⟨_, ?_, rfl, rfl⟩
    rw [take_nth hlt, hs, ← hy, List.flatMap_append]
    simp
  · repeat' first | (apply s'2; (focus exact w'2); all_goals intro _; all_goals try first | contradiction | (exfalso; omega) | exact absurd trivial ‹_›) | (apply s'1; (focus exact w'1); intro _) | (apply s'0; focus exact w'0) | fail
    refine fz ?_
    rw [hs, show i = w.st.length by omega, List.take_length, List.append_assoc]
end Go.AM

set_option linter.unusedVariables false
set_option linter.unusedSimpArgs false
namespace Go.AM
open Go.Lib
attribute [-simp] List.length_flatten List.map_flatten List.map_take List.map_map List.flatten_append
@[reducible] def eVx (a i j l : Int) (ct : Crt) (w : Wit) : V := .agg [.int .i64 0, .int .i64 a, .int .i64 i, .int .i64 j, .int .i64 l, .bool true, .int .i64 ct.l, .int .i64 ct.n, .lst (ct.rows.map eR), eIs ct.arb, .lst (ct.seqs.map eIs), .int .i64 w.k, .int .i64 w.r, .int .i64 w.w1, .int .i64 w.w2, .int .i64 w.o, .lst (w.st.map eStp), .int .i64 w.f, .int .i64 w.s]
set_option maxHeartbeats 8000000 in
theorem ref26_Text_c (a i j l : Int) (ct : Crt) (w : Wit) (h5 : okN l) (oc : okCt ct) (hf : fewB ct w = true) : PC T0 n.ref26_Text [eVx a i j l ct w] false (.str (conT l ++ crtT ct)) := by
  obtain ⟨f1, f2, f3, f4, f5, f6, f7⟩ := few_get hf
  obtain ⟨h0, h1, h2, h3, h4, hq⟩ := oc
  obtain ⟨pm1, pm2⟩ := pr_mem f2 f3
  have okc : okNm [99, 111, 110, 115, 105, 115, 116, 101, 110, 116] [l] := okNm_1 h5 (by decide)
  have oko : okNm [111, 114, 100, 101, 114] [ct.n] := okNm_1 h0 (by decide)
  have oka : okNm [97, 114, 98] ct.arb := ⟨by decide, by omega, h3.2⟩
  have l1 := numT_len okc
  have l2 := numT_len oko
  have l3 := numT_len oka
  simp only [List.length_cons, List.length_nil] at l1 l2 l3
  have c1 : PCon T0 n.ref26_Numbers [.str [99, 111, 110, 115, 105, 115, 116, 101, 110, 116], eIs [l]] false True (.str (conT l)) := ⟨fun _ => (ref26_Numbers _ [l]).con okc⟩
  have c2 : PCon T0 n.ref26_Numbers [.str [111, 114, 100, 101, 114], eIs [ct.n]] false True (.str (ordT ct.n)) := ⟨fun _ => (ref26_Numbers _ [ct.n]).con oko⟩
  have c3 : PCon T0 n.ref26_Numbers [.str [97, 114, 98], eIs ct.arb] false True (.str (arbT ct.arb)) := ⟨fun _ => (ref26_Numbers _ ct.arb).con oka⟩
  have c4 : PCon T0 n.ref03_Pairs [.agg [.int .i64 ct.n, .lst (ct.rows.map eR)]] true True (.lst ((prM ct.rows).map eP)) := ⟨fun _ => by
    rw [f1]
    exact (ref03_Pairs ct.rows).con ⟨by omega, fun r hr => ⟨h2 r hr, by have := f3 r hr; omega⟩⟩⟩
  have lt : ∀ i, (((prM ct.rows).take i).flatMap parT).length ≤ 49 * 4096 := fun i => by
    have := fmx_len (f := parT) (B := 49) (l := (prM ct.rows).take i) (fun p hp => by have := numT_len (okNm_par (pm2 p (List.take_subset _ _ hp))); simpa [parT, parL] using this)
    have e : ((prM ct.rows).take i).length ≤ 4096 := by rw [List.length_take]; omega
    omega
  have l1' : (conT l).length ≤ 100 := by unfold conT; omega
  have l2' : (ordT ct.n).length ≤ 100 := by unfold ordT; omega
  have l3' : (arbT ct.arb).length ≤ 1000 := by unfold arbT; omega
  have hcr : crtT ct = ((ordT ct.n ++ (prM ct.rows).flatMap parT) ++ arbT ct.arb) ++ ct.seqs.flatMap seqT := rfl
  rw [hcr]
  generalize conT l = t1 at c1 l1' ⊢
  generalize ordT ct.n = t2 at c2 l2' ⊢
  generalize arbT ct.arb = t3 at c3 l3' ⊢
  generalize prM ct.rows = ps at c4 pm1 pm2 lt ⊢
  refine pc tabOk ?_
  repeat' first | (apply s'2; (focus exact w'2); all_goals intro _; all_goals try first | contradiction | (exfalso; omega) | exact absurd trivial ‹_›) | (apply s'1; (focus exact w'1); intro _) | (apply s'0; focus exact w'0) | fail
  refine wh_raw ?_
  repeat' first | (apply s'2; (focus exact w'2); all_goals intro _; all_goals try first | contradiction | (exfalso; omega) | exact absurd trivial ‹_›) | (apply s'1; (focus exact w'1); intro _) | (apply s'0; focus exact w'0) | fail
  refine dr_lq ⟨rfl⟩ ⟨rfl⟩ ⟨rfl⟩ ⟨rfl⟩ ?_
  repeat' first | (apply s'1; (focus exact w'1); intro _) | (apply s'0; focus exact w'v) | fail
  refine rd_q (by exact xx) (by repeat first | exact PO.nil | apply PO.zero | (apply PO.ld; (focus exact xx))) ?_
  refine dq_ve (DVE.mk ⟨rfl⟩ ⟨rfl⟩ ⟨rfl⟩ (by exact xx) (by first | exact InD.no | (apply InD.so; exact xx))) ?_
  refine dq_ve (DVE.mk ⟨rfl⟩ ⟨rfl⟩ ⟨rfl⟩ (by exact xx) (by first | exact InD.no | (apply InD.so; exact xx))) ?_
  refine dq_v (DV.mk ⟨rfl⟩ ⟨rfl⟩ ⟨rfl⟩ ⟨rfl⟩ (by exact xx) (by first | exact InD.no | (apply InD.so; exact xx))) ?_
  refine dq_v (DV.mk ⟨rfl⟩ ⟨rfl⟩ ⟨rfl⟩ ⟨rfl⟩ (by exact xx) (by first | exact InD.no | (apply InD.so; exact xx))) ?_
  refine dq_fin (by exact xx) ?_
  repeat' first | (apply s'2; (focus exact w'2); all_goals intro _; all_goals try first | contradiction | (exfalso; omega) | exact absurd trivial ‹_›) | (apply s'1; (focus exact w'1); intro _) | (apply s'0; focus exact w'0) | fail
  rename_i vid _ _ g1 g2
  refine wh_sub (L' := [.ob vid (.row 19 false [eVx a i j l ct w])]) ?_ (by exact sbc)
  refine wh_count ps.length (fun k A L => ∃ s, s = (t1 ++ t2) ++ (ps.take k).flatMap parT ∧ A = [(1, .ptr vid 19 0 0), (7, .str s), (8, .lst (ps.map eP)), (9, eN k)] ∧ L = [.ob vid (.row 19 false [eVx a i j l ct w])]) ⟨_, by rw [List.take_zero, List.flatMap_nil, List.append_nil], rfl, rfl⟩ ?_
  rintro k A L hk ⟨s, hs, rfl, rfl⟩
  have lk := lt k
  have hsl : s.length ≤ 300000 := by rw [hs, List.length_append, List.length_append]; omega
  by_cases hlt : k < ps.length
  · have hp := pm2 (nth ps k) (by rw [nth_eq hlt]; exact List.getElem_mem hlt)
    have hpl := numT_len (okNm_par hp)
    have c5 : PCon T0 n.ref26_Numbers [.str [112, 97, 105, 114], eIs (parL (nth ps k))] false True (.str (parT (nth ps k))) := ⟨fun _ => (ref26_Numbers _ (parL (nth ps k))).con (okNm_par hp)⟩
    have hpl' : (parT (nth ps k)).length ≤ 49 := by simpa [parT, parL] using hpl
    clear hpl
    generalize hy : parT (nth ps k) = y at c5 hpl'
    repeat' first | (apply s'2; (focus exact w'2); all_goals intro _; all_goals try first | contradiction | (exfalso; omega) | exact absurd trivial ‹_›) | (apply s'1; (focus exact w'1); intro _) | (apply s'0; focus exact w'0) | fail
    refine wh_raw ?_
    repeat' first | (apply s'2; (focus exact w'2); all_goals intro _; all_goals try first | contradiction | (exfalso; omega) | exact absurd trivial ‹_›) | (apply s'1; (focus exact w'1); intro _) | (apply s'0; focus exact w'0) | fail
    refine fr_next (by omega) (List.sublist_cons_self _ _) ⟨_, ?_, rfl, rfl⟩
    rw [take_nth hlt, hs, ← hy, List.flatMap_append]
    simp
  · rw [show k = ps.length by omega, List.take_length] at hs
    repeat' first | (apply s'2; (focus exact w'2); all_goals intro _; all_goals try first | contradiction | (exfalso; omega) | exact absurd trivial ‹_›) | (apply s'1; (focus exact w'1); intro _) | (apply s'0; focus exact w'0) | fail
    have hsl2 : (s ++ t3).length ≤ 301000 := by rw [List.length_append]; omega
    refine wh_count ct.seqs.length (fun q A L => ∃ u, u = (s ++ t3) ++ (ct.seqs.take q).flatMap seqT ∧ A = [(1, .ptr vid 19 0 0), (7, .str u), (10, eN q)] ∧ L = [.ob vid (.row 19 false [eVx a i j l ct w])]) ⟨_, by rw [List.take_zero, List.flatMap_nil, List.append_nil], rfl, rfl⟩ ?_
    rintro q A L hqq ⟨u, hu, rfl, rfl⟩
    have hul : u.length ≤ 301000 + 708 * 32 := by
      have := fmx_len (f := seqT) (B := 708) (l := ct.seqs.take q) (fun s hs => by
        have hm := List.take_subset _ _ hs
        have h6 := f6 s hm
        have := numT_len (nm := [115, 101, 113]) (l := s) ⟨by decide, by omega, (hq s hm).2⟩
        simp only [List.length_cons, List.length_nil] at this
        unfold seqT
        omega)
      have e : (ct.seqs.take q).length ≤ 32 := by rw [List.length_take]; omega
      rw [hu, List.length_append]; omega
    by_cases hlq : q < ct.seqs.length
    · have hm : nth ct.seqs q ∈ ct.seqs := by rw [nth_eq hlq]; exact List.getElem_mem hlq
      have okq : okNm [115, 101, 113] (nth ct.seqs q) := ⟨by decide, by have := f6 _ hm; omega, (hq _ hm).2⟩
      have hql := numT_len okq
      have hq6 := f6 _ hm
      have c6 : PCon T0 n.ref26_Numbers [.str [115, 101, 113], eIs (nth ct.seqs q)] false True (.str (seqT (nth ct.seqs q))) := ⟨fun _ => (ref26_Numbers _ (nth ct.seqs q)).con okq⟩
      have hql' : (seqT (nth ct.seqs q)).length ≤ 708 := by
        simp only [List.length_cons, List.length_nil] at hql
        unfold seqT
        omega
      clear hql
      generalize hy : seqT (nth ct.seqs q) = y at c6 hql'
      repeat' first | (apply s'2; (focus exact w'2); all_goals intro _; all_goals try first | contradiction | (exfalso; omega) | exact absurd trivial ‹_›) | (apply s'1; (focus exact w'1); intro _) | (apply s'0; focus exact w'0) | fail
      refine fr_next (by omega) sbc ⟨_, ?_, rfl, rfl⟩
      rw [take_nth hlq, hu, ← hy, List.flatMap_append]
      simp
    · repeat' first | (apply s'2; (focus exact w'2); all_goals intro _; all_goals try first | contradiction | (exfalso; omega) | exact absurd trivial ‹_›) | (apply s'1; (focus exact w'1); intro _) | (apply s'0; focus exact w'0) | fail
      refine fz ?_
      rw [hu, hs, show q = ct.seqs.length by omega, List.take_length]
      simp
end Go.AM

set_option linter.unusedVariables false
set_option linter.unusedSimpArgs false
namespace Go.AM
open Go.Lib
attribute [-simp] List.length_flatten List.map_flatten List.map_take List.map_map List.flatten_append
instance ref26_TextV (v : Vrd) : PCon T0 n.ref26_Text [eVrd v] false (okV v ∧ fewB v.ct v.w = true) (.str (vrT v)) := ⟨fun ⟨⟨h1, h2, h3, h4, h5, oc, ow⟩, hf⟩ => by
  obtain ⟨e, a, i, j, l, c, ct, w⟩ := v
  by_cases he : e = 0
  · subst he
    cases c with
    | false =>
      have e1 : vrT ⟨0, a, i, j, l, false, ct, w⟩ = incT l ++ witT w := by simp [vrT]
      rw [e1]
      exact ref26_Text_i a i j l ct w h5 ow
    | true =>
      have e1 : vrT ⟨0, a, i, j, l, true, ct, w⟩ = conT l ++ crtT ct := by simp [vrT]
      rw [e1]
      exact ref26_Text_c a i j l ct w h5 oc hf
  · have e1 : vrT ⟨e, a, i, j, l, c, ct, w⟩ = errT e a i j := by simp [vrT, he]
    rw [e1]
    exact ref26_Text_e e a i j l c ct w he h1 h2 h3 h4⟩
end Go.AM

set_option linter.unusedVariables false
set_option linter.unusedSimpArgs false
namespace Go.AM
open Go.Lib
attribute [-simp] List.length_flatten List.map_flatten List.map_take List.map_map List.flatten_append
theorem sum_step {l : List (List UInt8)} {i : Nat} (h : i < l.length) : sumB (l.take (i + 1)) = sumB (l.take i) + (nth l i).length := by
  rw [take_nth h]
  have : ∀ (l : List (List UInt8)) (x : List UInt8), sumB (l ++ [x]) = sumB l + x.length := by
    intro l x
    induction l with
    | nil => simp [sumB]
    | cons a r ih =>
      unfold sumB at ih ⊢
      simp only [List.cons_append, List.map_cons, List.foldr_cons]
      omega
  exact this _ _
def okTT (v : Vrd) (ws : List (List UInt8)) (l : List Int) : Prop := okV v ∧ ws.length ≤ 1048576 ∧ sumB ws ≤ 1048576 ∧ l.length ≤ 1048576 ∧ ∀ x ∈ l, okN x
set_option maxHeartbeats 8000000 in
instance tellTells (v : Vrd) (ws : List (List UInt8)) (l : List Int) : PCon T0 n.law26_TellTells [eVrd v, .lst (ws.map V.str), eIs l] false (okTT v ws l) (.bool true) := ⟨fun ⟨ok, w1, w2, l1, l2⟩ => by
  have oc := ok.2.2.2.2.2.1
  have ow := ok.2.2.2.2.2.2
  cases hf : fewB v.ct v.w with
  | false =>
    have c1 : PCon T0 n.law26_few [eVrd v] false True (.bool false) := ⟨fun _ => by
      have := (law26_few v).con ⟨oc, ow.2.1⟩
      rwa [hf] at this⟩
    refine pc tabOk ?_
    repeat' first | (apply s'2; (focus exact w'2); all_goals intro _; all_goals try first | contradiction | (exfalso; omega) | exact absurd trivial ‹_›) | (apply s'1; (focus exact w'1); intro _) | (apply s'0; focus exact w'0) | fail
    · exact fz rfl
    · rename_i h
      exact absurd (.inl (.inl (fun h => h))) h
  | true =>
    have c1 : PCon T0 n.law26_few [eVrd v] false True (.bool true) := ⟨fun _ => by
      have := (law26_few v).con ⟨oc, ow.2.1⟩
      rwa [hf] at this⟩
    have c2 : PCon T0 n.tell_Text [eVrd v] false True (.str (vrT v)) := ⟨fun _ => (tell_TextV v).con ⟨ok, hf⟩⟩
    have c3 : PCon T0 n.ref26_Text [eVrd v] false True (.str (vrT v)) := ⟨fun _ => (ref26_TextV v).con ⟨ok, hf⟩⟩
    have jl := join_len ws
    have c4 : PCon T0 n.tell_Line [.lst (ws.map V.str)] false True (.str (join ws [32] ++ [10])) := ⟨fun _ => (tell_Line ws).con ⟨by omega, by omega⟩⟩
    have c5 : PCon T0 n.ref26_Line [.lst (ws.map V.str)] false True (.str (join ws [32] ++ [10])) := ⟨fun _ => (ref26_Line ws).con ⟨w1, w2⟩⟩
    have ok6 : okNm [120] l := ⟨by decide, l1, l2⟩
    have c6 : PCon T0 n.tell_Numbers [.str [120], eIs l] false True (.str (numT [120] l)) := ⟨fun _ => (tell_Numbers [120] l).con ok6⟩
    have c7 : PCon T0 n.ref26_Numbers [.str [120], eIs l] false True (.str (numT [120] l)) := ⟨fun _ => (ref26_Numbers [120] l).con ok6⟩
    generalize vrT v = t at c2 c3
    generalize join ws [32] ++ [10] = u at c4 c5
    generalize numT [120] l = y at c6 c7
    refine pc tabOk ?_
    repeat' first | (apply s'2; (focus exact w'2); all_goals intro _; all_goals try first | contradiction | (exfalso; omega) | exact absurd trivial ‹_›) | (apply s'1; (focus exact w'1); intro _) | (apply s'0; focus exact w'0) | fail
    · exact fz rfl
    rename_i id _
    refine wh_count ws.length (fun i A L => A = [(1, .lst (ws.map V.str)), (2, eIs l), (3, .ptr id 19 0 0), (7, eN (sumB (ws.take i))), (8, eN i)] ∧ L = [.ob id (.row 19 false [eVrd v])]) ⟨rfl, rfl⟩ ?_
    rintro i A L hi ⟨rfl, rfl⟩
    have hst := sum_take ws i
    by_cases hlt : i < ws.length
    · have h1 := sum_step hlt
      have h2 := sum_take ws (i + 1)
      repeat' first | (apply s'2; (focus exact w'2); all_goals intro _; all_goals try first | contradiction | (exfalso; omega) | exact absurd trivial ‹_›) | (apply s'1; (focus exact w'1); intro _) | (apply s'0; focus exact w'0) | fail
      refine fr_next (by omega) sbc ⟨?_, rfl⟩
      rw [h1]
    · repeat' first | (apply s'2; (focus exact w'2); all_goals intro _; all_goals try first | contradiction | (exfalso; omega) | exact absurd trivial ‹_›) | (apply s'1; (focus exact w'1); intro _) | (apply s'0; focus exact w'0) | fail
      · exact fz rfl
      · refine fz ?_
        simp⟩
end Go.AM

set_option linter.unusedVariables false
set_option linter.unusedSimpArgs false
namespace Go.AM
open Go.RowKit Go.Deep Go.Proofs
attribute [-simp] List.length_flatten List.map_flatten List.map_take List.map_map List.flatten_append
abbrev gStep : Stp → Int × Int × Int × Int × Int := fun x => (x.k, x.a, x.b, x.c, x.d)
abbrev EStep' : Enc Stp := eStruct (fCons (eInt .i64) (fCons (eInt .i64) (fCons (eInt .i64) (fCons (eInt .i64) (fOne (eInt .i64)))))) gStep
def wtStep (x : Stp) : Nat := (1 + (1 + (1 + (1 + 1)))) + 1
def wfStep (x : Stp) : Prop := (Lit.int IntKind.i64 x.k).wf = true ∧ (Lit.int IntKind.i64 x.a).wf = true ∧ (Lit.int IntKind.i64 x.b).wf = true ∧ (Lit.int IntKind.i64 x.c).wf = true ∧ (Lit.int IntKind.i64 x.d).wf = true
abbrev gWitness : Wit → Int × Int × Int × Int × Int × List Stp × Int × Int := fun w => (w.k, w.r, w.w1, w.w2, w.o, w.st, w.f, w.s)
abbrev EWitness' : Enc Wit := eStruct (fCons (eInt .i64) (fCons (eInt .i64) (fCons (eInt .i64) (fCons (eInt .i64) (fCons (eInt .i64) (fCons (eList EStep') (fCons (eInt .i64) (fOne (eInt .i64))))))))) gWitness
def wtWitness (w : Wit) : Nat := (1 + (1 + (1 + (1 + (1 + ((wsum wtStep w.st + 1) + (1 + 1))))))) + 1
def wfWitness (w : Wit) : Prop := (Lit.int IntKind.i64 w.k).wf = true ∧ (Lit.int IntKind.i64 w.r).wf = true ∧ (Lit.int IntKind.i64 w.w1).wf = true ∧ (Lit.int IntKind.i64 w.w2).wf = true ∧ (Lit.int IntKind.i64 w.o).wf = true ∧ (∀ x ∈ w.st, wfStep x) ∧ (Lit.int IntKind.i64 w.f).wf = true ∧ (Lit.int IntKind.i64 w.s).wf = true
theorem wsum_len {α : Type} {wt : α → Nat} (h1 : ∀ x, 1 ≤ wt x) (l : List α) : l.length ≤ wsum wt l := by
  induction l with
  | nil => simp [wsum]
  | cons a r ih => simp only [wsum, List.length_cons]; have := h1 a; omega
theorem wsum_mem {α : Type} {wt : α → Nat} {l : List α} {x : α} (h : x ∈ l) : wt x ≤ wsum wt l := by
  induction l with
  | nil => cases h
  | cons a r ih =>
    simp only [wsum]
    rcases List.mem_cons.1 h with rfl | h
    · omega
    · have := ih h; omega
theorem okN_of {i : Int} (h : (Lit.int .i64 i).wf = true) : okN i := by
  simp only [Lit.wf, Bool.and_eq_true, decide_eq_true_eq] at h
  exact h
theorem okWit_of {w : Wit} (hb' : wtWitness w ≤ 1048576) (hw : wfWitness w) : okWit w := by
  obtain ⟨h1, h2, h3, h4, h5, h6, h7, h8⟩ := hw
  have := wsum_len (wt := wtStep) (fun x => by unfold wtStep; omega) w.st
  unfold wtWitness at hb'
  exact ⟨⟨okN_of h1, okN_of h2, okN_of h3, okN_of h4, okN_of h5, okN_of h7, okN_of h8⟩, by omega, fun x hx => ⟨okN_of (h6 x hx).1, okN_of (h6 x hx).2.1, okN_of (h6 x hx).2.2.1, okN_of (h6 x hx).2.2.2.1, okN_of (h6 x hx).2.2.2.2⟩⟩
abbrev gMat : Int × List (List Int) → Int × List (List Int) := fun t => (t.1, t.2)
abbrev EMat' : Enc (Int × List (List Int)) := eStruct (fCons (eInt .i64) (fOne (eList (eList (eInt .u64))))) gMat
def wtMat (m : Int × List (List Int)) : Nat := (1 + (wsum (fun xs => wsum (fun _ => 1) xs + 1) m.2 + 1)) + 1
def wfMat (m : Int × List (List Int)) : Prop := (Lit.int IntKind.i64 m.1).wf = true ∧ ∀ x ∈ m.2, ∀ y ∈ x, (Lit.int IntKind.u64 y).wf = true
structure CrtR where
  (l : Int) (co : Int × List (List Int)) (arb : List Int) (seqs : List (List Int))
abbrev gCert : CrtR → Int × (Int × List (List Int)) × List Int × List (List Int) := fun c => (c.l, c.co, c.arb, c.seqs)
abbrev ECert' : Enc CrtR := eStruct (fCons (eInt .i64) (fCons EMat' (fCons (eList (eInt .i64)) (fOne (eList (eList (eInt .i64))))))) gCert
def wtCert (c : CrtR) : Nat := (1 + (wtMat c.co + ((wsum (fun _ => 1) c.arb + 1) + (wsum (fun xs => wsum (fun _ => 1) xs + 1) c.seqs + 1)))) + 1
def wfCert (c : CrtR) : Prop := (Lit.int IntKind.i64 c.l).wf = true ∧ wfMat c.co ∧ (∀ x ∈ c.arb, (Lit.int IntKind.i64 x).wf = true) ∧ ∀ x ∈ c.seqs, ∀ y ∈ x, (Lit.int IntKind.i64 y).wf = true
structure VrdR where
  (e a i j l : Int) (c : Bool) (ct : CrtR) (w : Wit)
abbrev gVerdict : VrdR → Int × Int × Int × Int × Int × Bool × CrtR × Wit := fun v => (v.e, v.a, v.i, v.j, v.l, v.c, v.ct, v.w)
abbrev EVerdict' : Enc VrdR := eStruct (fCons (eInt .i64) (fCons (eInt .i64) (fCons (eInt .i64) (fCons (eInt .i64) (fCons (eInt .i64) (fCons eBool (fCons ECert' (fOne EWitness')))))))) gVerdict
def wtVerdict (v : VrdR) : Nat := (1 + (1 + (1 + (1 + (1 + (1 + (wtCert v.ct + wtWitness v.w))))))) + 1
def wfVerdict (v : VrdR) : Prop := (Lit.int IntKind.i64 v.e).wf = true ∧ (Lit.int IntKind.i64 v.a).wf = true ∧ (Lit.int IntKind.i64 v.i).wf = true ∧ (Lit.int IntKind.i64 v.j).wf = true ∧ (Lit.int IntKind.i64 v.l).wf = true ∧ True ∧ wfCert v.ct ∧ wfWitness v.w
def toV (v : VrdR) : Vrd := ⟨v.e, v.a, v.i, v.j, v.l, v.c, ⟨v.ct.l, v.ct.co.1, v.ct.co.2.map (·.map Int.toNat), v.ct.arb, v.ct.seqs⟩, v.w⟩
theorem nat_u64 {x : Int} (h : (Lit.int .u64 x).wf = true) : 0 ≤ x ∧ x < 18446744073709551616 := by
  simp only [Lit.wf, Bool.and_eq_true, decide_eq_true_eq] at h
  obtain ⟨h1, h2⟩ := h
  have e1 : IntKind.u64.min = 0 := rfl
  have e2 : IntKind.u64.max = 18446744073709551615 := rfl
  omega
theorem rows_eq {rows : List (List Int)} (h : ∀ x ∈ rows, ∀ y ∈ x, (Lit.int IntKind.u64 y).wf = true) : (rows.map (·.map Int.toNat)).map eR = rows.map fun r => V.lst (r.map (V.int .u64)) := by
  rw [List.map_map]
  apply List.map_congr_left
  intro r hr
  show V.lst ((r.map Int.toNat).map eW) = _
  rw [List.map_map]
  congr 1
  apply List.map_congr_left
  intro y hy
  have := nat_u64 (h r hr y hy)
  show V.int .u64 ((y.toNat : Nat) : Int) = _
  rw [show ((y.toNat : Nat) : Int) = y by omega]
theorem sumB_le (ws : List (List UInt8)) : sumB ws ≤ wsum (fun s => s.length + 1) ws ∧ ws.length ≤ wsum (fun s => s.length + 1) ws := by
  induction ws with
  | nil => exact ⟨Nat.le_refl _, Nat.le_refl _⟩
  | cons a r ih =>
    unfold sumB at ih ⊢
    simp only [List.map_cons, List.foldr_cons, wsum, List.length_cons]
    omega
theorem tellTellsR (v : VrdR) (ws : List (List UInt8)) (l : List Int) : PCon T0 n.law26_TellTells [EVerdict'.enc v, (eList eStr).enc ws, (eList (eInt .i64)).enc l] false (okTT (toV v) ws l ∧ wfCert v.ct) (.bool true) := ⟨fun ⟨h, hw⟩ => by
  have h1 := (tellTells (toV v) ws l).con h
  have e : EVerdict'.enc v = eVrd (toV v) := (congrArg (fun z => V.agg [.int .i64 v.e, .int .i64 v.a, .int .i64 v.i, .int .i64 v.j, .int .i64 v.l, .bool v.c, .int .i64 v.ct.l, .int .i64 v.ct.co.1, .lst z, eIs v.ct.arb, .lst (v.ct.seqs.map eIs), .int .i64 v.w.k, .int .i64 v.w.r, .int .i64 v.w.w1, .int .i64 v.w.w2, .int .i64 v.w.o, .lst (v.w.st.map eStp), .int .i64 v.w.f, .int .i64 v.w.s]) (rows_eq hw.2.1.2)).symm
  rw [e]
  exact h1⟩
theorem tellTellsR_ok (v : VrdR) (ws : List (List UInt8)) (l : List Int) (hb' : wtVerdict v + (fun xs => wsum (fun s : List UInt8 => s.length + 1) xs + 1) ws + (fun xs => wsum (fun _ : Int => 1) xs + 1) l ≤ 1048576) (h0 : wfVerdict v) (h1 : (fun xs => ∀ x ∈ xs, (fun _ => True) x) ws) (h2 : (fun xs => ∀ x ∈ xs, (fun a => (Lit.int .i64 a).wf = true) x) l) : okTT (toV v) ws l ∧ wfCert v.ct := by
  simp only [wtVerdict, wtCert, wtMat] at hb'
  obtain ⟨k1, k2, k3, k4, k5, -, kc, kw⟩ := h0
  obtain ⟨c1, c2, c3, c4⟩ := kc
  obtain ⟨b1, b2⟩ := sumB_le ws
  have b3 := wsum_len (wt := fun _ : Int => 1) (fun _ => Nat.le_refl _) l
  have b4 := wsum_len (wt := fun _ : Int => 1) (fun _ => Nat.le_refl _) v.ct.arb
  have b5 := wsum_len (wt := fun xs : List Int => wsum (fun _ => 1) xs + 1) (fun x => by omega) v.ct.seqs
  have b6 := wsum_len (wt := fun xs : List Int => wsum (fun _ => 1) xs + 1) (fun x => by omega) v.ct.co.2
  refine ⟨⟨⟨okN_of k1, okN_of k2, okN_of k3, okN_of k4, okN_of k5, ⟨okN_of c2.1, ?_, ?_, ⟨?_, fun x hx => okN_of (c3 x hx)⟩, ?_, ?_⟩, okWit_of (show wtWitness v.w ≤ 1048576 by omega) kw⟩, by omega, by omega, by omega, fun x hx => okN_of (h2 x hx)⟩, ⟨c1, c2, c3, c4⟩⟩
  · show (v.ct.co.2.map _).length ≤ _
    rw [List.length_map]; omega
  · intro r hr
    obtain ⟨r', hr', rfl⟩ := List.mem_map.1 hr
    have e1 := wsum_mem (wt := fun xs : List Int => wsum (fun _ => 1) xs + 1) hr'
    have e2 := wsum_len (wt := fun _ : Int => 1) (fun _ => Nat.le_refl _) r'
    refine ⟨by rw [List.length_map]; omega, fun x hx => ?_⟩
    obtain ⟨y, hy, rfl⟩ := List.mem_map.1 hx
    have := nat_u64 (c2.2 r' hr' y hy)
    show y.toNat < 18446744073709551616
    omega
  · show v.ct.arb.length ≤ _
    omega
  · show v.ct.seqs.length ≤ _
    omega
  · intro s hs
    have hs' : s ∈ v.ct.seqs := hs
    have e1 := wsum_mem (wt := fun xs : List Int => wsum (fun _ => 1) xs + 1) hs'
    have e2 := wsum_len (wt := fun _ : Int => 1) (fun _ => Nat.le_refl _) s
    exact ⟨by omega, fun x hx => okN_of (c4 s hs x hx)⟩
end Go.AM

