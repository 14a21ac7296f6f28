/- Part ZB of the proof. -/
import Derived.Test.YtanfkgcgjnpgdaaDoorZA
import Derived.Test.YtanfkgcgjnpgdaaDoorA3
import Derived.Lib.ItoaMem
set_option linter.unusedVariables false
set_option linter.unusedSimpArgs false
namespace Go.AM
open Go.Lib
attribute [-simp] List.length_flatten List.map_flatten List.map_take List.map_map List.flatten_append
/-! Numerals. -/
theorem dec_big {u : Nat} (h : ¬ u < 10) : decDigits u = decDigits (u / 10) ++ [UInt8.ofNat (48 + u % 10)] := by
  conv => lhs; rw [decDigits]
  rw [dif_neg h]
theorem dec_small {u : Nat} (h : u < 10) : decDigits u = [UInt8.ofNat (48 + u)] := decDigits_one h
theorem dec_rec {P : Nat → Prop} (h1 : ∀ u, u < 10 → P u) (h2 : ∀ u, ¬ u < 10 → P (u / 10) → P u) : ∀ u, P u := fun u => by
  induction u using Nat.strongRecOn with
  | _ u ih =>
    by_cases h : u < 10
    · exact h1 u h
    · exact h2 u h (ih _ (by omega))
theorem byte_nat {d : Nat} (h : d < 10) : (UInt8.ofNat (48 + d)).toNat = 48 + d := by
  rw [UInt8.toNat_ofNat']; omega
theorem dec_ne (u : Nat) : 1 ≤ (decDigits u).length := by
  by_cases h : u < 10
  · rw [dec_small h]; simp
  · rw [dec_big h]; simp
theorem dec_dig : ∀ u, (decDigits u).all dig = true := dec_rec
  (fun u h => by
    rw [dec_small h]
    simp only [List.all_cons, List.all_nil, Bool.and_true, dig, byte_nat h, Bool.and_eq_true, decide_eq_true_eq]; omega)
  (fun u h ih => by
    rw [dec_big h, List.all_append, ih, Bool.true_and]
    simp only [List.all_cons, List.all_nil, Bool.and_true, dig, byte_nat (d := u % 10) (by omega), Bool.and_eq_true, decide_eq_true_eq]; omega)
theorem numV_snoc (l : List UInt8) (c : UInt8) : numV (l ++ [c]) = 10 * numV l + (c.toNat - 48) := by
  rw [numV, List.foldl_append]; rfl
theorem dec_num : ∀ u, numV (decDigits u) = u := dec_rec
  (fun u h => by
    rw [dec_small h]
    show 10 * 0 + ((UInt8.ofNat (48 + u)).toNat - 48) = u
    rw [byte_nat h]; omega)
  (fun u h ih => by
    rw [dec_big h, numV_snoc, ih, byte_nat (by omega)]; omega)
theorem dec_len_le : ∀ u, (decDigits u).length ≤ u + 1 := dec_rec
  (fun u h => by rw [dec_small h]; simp)
  (fun u h ih => by rw [dec_big h, List.length_append]; simp; omega)
theorem dec_len {u : Nat} (h : u ≤ 9223372036854775808) : (decDigits u).length ≤ 20 := by
  have key : ∀ k u, u < 10 ^ k → 1 ≤ k → (decDigits u).length ≤ k := by
    intro k
    induction k with
    | zero => intro u _ h; omega
    | succ k ih =>
      intro u hu _
      by_cases h : u < 10
      · rw [dec_small h]; simp
      · rw [dec_big h, List.length_append]
        have hk : 1 ≤ k := by
          cases k with
          | zero => rw [Nat.zero_add, Nat.pow_one] at hu; omega
          | succ k => omega
        have := ih (u / 10) (by rw [Nat.pow_succ] at hu; omega) hk
        rw [List.length_singleton]; omega
  exact key 20 u (Nat.lt_of_le_of_lt h (by decide)) (by decide)
theorem itoa_len {q : Int} (h : -9223372036854775808 ≤ q ∧ q ≤ 9223372036854775807) : (itoa q).length ≤ 21 := by
  unfold itoa; split
  · have := dec_len (u := q.natAbs) (by omega); rw [List.length_cons]; omega
  · have := dec_len (u := q.toNat) (by omega); omega
def okN (q : Int) : Prop := -9223372036854775808 ≤ q ∧ q ≤ 9223372036854775807
theorem deep_int {j : Nat} {H : Heap} {k : IntKind} {m : Int} {x : V} (h : deep H (j + 1) x = some (.int k m)) : x = .int k m := by
  cases x with
  | int k' m' => injection h with h
  | ref id s off len =>
    simp only [deep] at h
    split at h
    · split at h
      · split at h
        · cases h
        · obtain ⟨_, _, h⟩ := Option.map_eq_some_iff.1 h; cases h
      · cases h
    · cases h
  | agg cs => obtain ⟨_, _, h⟩ := Option.map_eq_some_iff.1 h; cases h
  | tup cs => obtain ⟨_, _, h⟩ := Option.map_eq_some_iff.1 h; cases h
  | _ => simp [deep] at h
theorem mapM1 {H : Heap} {xs : List V} {d : V} (h : xs.mapM (deep H 8) = some [d]) : ∃ x, xs = [x] ∧ deep H 8 x = some d := by
  match xs, h with
  | [], h => cases h
  | [x], h =>
    simp only [List.mapM_cons, List.mapM_nil, Option.bind_eq_bind, Option.bind_eq_some_iff, Option.pure_def, Option.some.injEq] at h
    obtain ⟨a, h1, b, h2, h3⟩ := h
    subst h2
    injection h3 with h3 _
    exact ⟨x, rfl, by rw [h1, h3]⟩
  | x :: y :: r, h => have := mapM_len h; simp at this
instance itoa_pc (m : Int) : PCon T0 n.strconv_Itoa [.int .i64 m] false (okN m) (.str (itoa m)) := ⟨fun hn xs H hx _ => by
  obtain ⟨x, rfl, h⟩ := mapM1 hx
  rw [deep_int (j := 7) h]
  refine rowX (g := gItoa) rfl ?_
  simp only [gItoa]
  rw [if_pos (show _ ∧ _ from hn)]⟩
instance num_Put (m : Int) : PCon T0 n.num_Put [.int .i64 m] true (okN m) (.str (itoa m)) := ⟨fun hn => by
  refine pc tabOk ?_
  repeat' first | (apply dr_fin; (focus exact xx)) | (apply dr_v; focus (apply DV.mk; (focus exact RF.mk rfl); (focus exact RF.mk rfl); (focus exact RF.mk rfl); (focus exact RF.mk rfl); (focus exact xx); focus (first | exact InD.no | (apply InD.so; (focus exact xx))))) | (apply dr_r; focus (apply DL.mk; (focus exact RF.mk rfl); (focus exact xx); (focus exact xx); focus (first | exact InD.no | (apply InD.so; (focus exact xx))))) | (apply dr_l; (focus exact RF.mk rfl); (focus exact RF.mk rfl); (focus exact RF.mk rfl); (focus exact RF.mk rfl); (focus exact RF.mk rfl)) | (apply dr_e; (focus exact RF.mk rfl); (focus exact RF.mk rfl); (focus exact RF.mk rfl); (focus exact RF.mk rfl)) | (apply rd_e; (focus exact xx); focus (repeat first | exact PO.nil | apply PO.zero | (apply PO.ld; (focus exact xx)))) | (apply rd_l; (focus exact xx)) | refine wh_seq ?_ | refine wh_skip ?_ | refine wh_block ?_ | refine wh_end ?_ | refine wh_exit ?_ | refine wh_ret ?_ | refine bk_norm ?_ | refine bk_exit ?_ | refine bk_ret ?_ | refine fr_exit ?_ | refine fr_ret ?_ | refine lp_exit ?_ | refine lp_ret ?_ | refine jn_exit ?_ | refine jn_ret ?_ | refine bk_other rfl ?_ | (apply wr; focus exact xx) | (apply wi; (focus exact xx); (focus exact xx); all_goals intro _; all_goals try first | contradiction | (exfalso; omega) | exact absurd trivial ‹_›) | refine wh_reg ?_ | refine wh_ife ?_ | (apply re; focus exact xx) | (apply rf; (focus exact xx); (focus exact xx); all_goals intro _; all_goals try first | contradiction | (exfalso; omega) | exact absurd trivial ‹_›) | (apply ra; (focus exact xx); (focus exact xx); intro _) | (apply r1; (focus exact xx); (focus exact xx); intro _) | (apply rl; (focus exact xx); (focus exact xx); intro _) | (apply rb; (focus exact xx); (focus exact xx); intro _) | (apply rsi; (focus exact xx); (focus exact xx); all_goals try infer_instance) | (apply rsz; (focus exact xx); (focus exact xx); all_goals try infer_instance) | (apply rt; (focus exact xx); (focus exact xx)) | (apply rso; (focus exact xx); (focus exact xx); all_goals try infer_instance) | (apply rmm; (focus exact xx); intro _) | (apply rsb; (focus exact xx); (focus exact xx)) | (apply ru; (focus exact xx); (focus exact xx)) | (apply rm; (focus exact xx); (focus exact xx); intro _) | (apply rk; (focus exact xx); (focus exact xx); intro _) | (apply rcf; (focus exact xx); (focus (apply ACF.mk; (focus exact xx); (focus exact inferInstance); (focus exact xx); (focus exact inferInstance); (focus exact xx); (focus exact rfl)))) | (apply rco; (focus exact xx); (focus (apply ACO.mk; (focus exact xx); (focus exact xx); (focus exact inferInstance); (focus exact xx); (focus exact xx))); intro _) | (apply rc; (focus exact xx); (focus exact xx)) | (apply rk'; (focus exact xx); (focus exact xx))
  exact fz rfl⟩
theorem td_abs (K : Int) : (K.tdiv 10).natAbs = K.natAbs / 10 ∧ (K.tmod 10).natAbs = K.natAbs % 10 := by
  refine ⟨Int.natAbs_tdiv K 10, ?_⟩
  rw [Int.natAbs_tmod]; rfl
set_option maxHeartbeats 1000000 in
instance ref05_Put (m : Int) : PCon T0 n.ref05_Put [.int .i64 m] true (okN m) (.str (itoa m)) := ⟨fun hn => by
  obtain ⟨hn1, hn2⟩ := hn
  have hdl := dec_len (u := m.natAbs) (by omega)
  refine pc tabOk ?_
  repeat' first | (apply dr_fin; (focus exact xx)) | (apply dr_v; focus (apply DV.mk; (focus exact RF.mk rfl); (focus exact RF.mk rfl); (focus exact RF.mk rfl); (focus exact RF.mk rfl); (focus exact xx); focus (first | exact InD.no | (apply InD.so; (focus exact xx))))) | (apply dr_r; focus (apply DL.mk; (focus exact RF.mk rfl); (focus exact xx); (focus exact xx); focus (first | exact InD.no | (apply InD.so; (focus exact xx))))) | (apply dr_l; (focus exact RF.mk rfl); (focus exact RF.mk rfl); (focus exact RF.mk rfl); (focus exact RF.mk rfl); (focus exact RF.mk rfl)) | (apply dr_e; (focus exact RF.mk rfl); (focus exact RF.mk rfl); (focus exact RF.mk rfl); (focus exact RF.mk rfl)) | (apply rd_e; (focus exact xx); focus (repeat first | exact PO.nil | apply PO.zero | (apply PO.ld; (focus exact xx)))) | (apply rd_l; (focus exact xx)) | refine wh_seq ?_ | refine wh_skip ?_ | refine wh_block ?_ | refine wh_end ?_ | refine wh_exit ?_ | refine wh_ret ?_ | refine bk_norm ?_ | refine bk_exit ?_ | refine bk_ret ?_ | refine fr_exit ?_ | refine fr_ret ?_ | refine lp_exit ?_ | refine lp_ret ?_ | refine jn_exit ?_ | refine jn_ret ?_ | refine bk_other rfl ?_ | (apply wr; focus exact xx) | (apply wi; (focus exact xx); (focus exact xx); all_goals intro _; all_goals try first | contradiction | (exfalso; omega) | exact absurd trivial ‹_›) | refine wh_reg ?_ | refine wh_ife ?_ | (apply re; focus exact xx) | (apply rf; (focus exact xx); (focus exact xx); all_goals intro _; all_goals try first | contradiction | (exfalso; omega) | exact absurd trivial ‹_›) | (apply ra; (focus exact xx); (focus exact xx); intro _) | (apply r1; (focus exact xx); (focus exact xx); intro _) | (apply rl; (focus exact xx); (focus exact xx); intro _) | (apply rb; (focus exact xx); (focus exact xx); intro _) | (apply rsi; (focus exact xx); (focus exact xx); all_goals try infer_instance) | (apply rsz; (focus exact xx); (focus exact xx); all_goals try infer_instance) | (apply rt; (focus exact xx); (focus exact xx)) | (apply rso; (focus exact xx); (focus exact xx); all_goals try infer_instance) | (apply rmm; (focus exact xx); intro _) | (apply rsb; (focus exact xx); (focus exact xx)) | (apply ru; (focus exact xx); (focus exact xx)) | (apply rm; (focus exact xx); (focus exact xx); intro _) | (apply rk; (focus exact xx); (focus exact xx); intro _) | (apply rcf; (focus exact xx); (focus (apply ACF.mk; (focus exact xx); (focus exact inferInstance); (focus exact xx); (focus exact inferInstance); (focus exact xx); (focus exact rfl)))) | (apply rco; (focus exact xx); (focus (apply ACO.mk; (focus exact xx); (focus exact xx); (focus exact inferInstance); (focus exact xx); (focus exact xx))); intro _) | (apply rc; (focus exact xx); (focus exact xx)) | (apply rk'; (focus exact xx); (focus exact xx))
  refine wh_loop (fun j A L => ∃ (K : Int) (t : List UInt8), j = K.natAbs ∧ -9223372036854775808 ≤ K ∧ K ≤ 9223372036854775807 ∧ decDigits m.natAbs = decDigits K.natAbs ++ t ∧ A = [(0, .int .i64 m), (3, .str t), (4, .int .i64 K)] ∧ L = []) _ ⟨m, [], rfl, hn1, hn2, by rw [List.append_nil], rfl, rfl⟩ ?_
  rintro j A L ⟨K, t, rfl, hK1, hK2, hD, rfl, rfl⟩
  obtain ⟨hq, hr⟩ := td_abs K
  have htl : t.length ≤ 20 := by rw [hD, List.length_append] at hdl; omega
  have hqb : -9223372036854775808 ≤ K.tdiv 10 ∧ K.tdiv 10 ≤ 9223372036854775807 := by omega
  have hw : WR .i64 (K.tdiv 10) (K.tdiv 10) := ⟨w64 hqb⟩
  have hw1 : WR .i64 (0 - K.tmod 10) (0 - K.tmod 10) := ⟨w64 (by omega)⟩
  repeat' first | (apply dr_fin; (focus exact xx)) | (apply dr_v; focus (apply DV.mk; (focus exact RF.mk rfl); (focus exact RF.mk rfl); (focus exact RF.mk rfl); (focus exact RF.mk rfl); (focus exact xx); focus (first | exact InD.no | (apply InD.so; (focus exact xx))))) | (apply dr_r; focus (apply DL.mk; (focus exact RF.mk rfl); (focus exact xx); (focus exact xx); focus (first | exact InD.no | (apply InD.so; (focus exact xx))))) | (apply dr_l; (focus exact RF.mk rfl); (focus exact RF.mk rfl); (focus exact RF.mk rfl); (focus exact RF.mk rfl); (focus exact RF.mk rfl)) | (apply dr_e; (focus exact RF.mk rfl); (focus exact RF.mk rfl); (focus exact RF.mk rfl); (focus exact RF.mk rfl)) | (apply rd_e; (focus exact xx); focus (repeat first | exact PO.nil | apply PO.zero | (apply PO.ld; (focus exact xx)))) | (apply rd_l; (focus exact xx)) | refine wh_seq ?_ | refine wh_skip ?_ | refine wh_block ?_ | refine wh_end ?_ | refine wh_exit ?_ | refine wh_ret ?_ | refine bk_norm ?_ | refine bk_exit ?_ | refine bk_ret ?_ | refine fr_exit ?_ | refine fr_ret ?_ | refine lp_exit ?_ | refine lp_ret ?_ | refine jn_exit ?_ | refine jn_ret ?_ | refine bk_other rfl ?_ | (apply wr; focus exact xx) | refine wh_reg ?_ | (apply re; focus exact xx) | (apply ra; (focus exact xx); (focus exact xx); intro _) | (apply r1; (focus exact xx); (focus exact xx); intro _) | (apply rl; (focus exact xx); (focus exact xx); intro _) | (apply rb; (focus exact xx); (focus exact xx); intro _) | (apply rsi; (focus exact xx); (focus exact xx); all_goals try infer_instance) | (apply rsz; (focus exact xx); (focus exact xx); all_goals try infer_instance) | (apply rt; (focus exact xx); (focus exact xx)) | (apply rso; (focus exact xx); (focus exact xx); all_goals try infer_instance) | (apply rmm; (focus exact xx); intro _) | (apply rsb; (focus exact xx); (focus exact xx)) | (apply ru; (focus exact xx); (focus exact xx)) | (apply rm; (focus exact xx); (focus exact xx); intro _) | (apply rk; (focus exact xx); (focus exact xx); intro _) | (apply rcf; (focus exact xx); (focus (apply ACF.mk; (focus exact xx); (focus exact inferInstance); (focus exact xx); (focus exact inferInstance); (focus exact xx); (focus exact rfl)))) | (apply rco; (focus exact xx); (focus (apply ACO.mk; (focus exact xx); (focus exact xx); (focus exact inferInstance); (focus exact xx); (focus exact xx))); intro _) | (apply rc; (focus exact xx); (focus exact xx)) | (apply rk'; (focus exact xx); (focus exact xx))
  refine wh_cat (fun A L => A = [(0, .int .i64 m), (3, .str t), (4, .int .i64 K), (5, .int .i64 ((K.natAbs % 10 : Nat) : Int))] ∧ L = []) ?_ ?_
  · repeat' first | (apply dr_fin; (focus exact xx)) | (apply dr_v; focus (apply DV.mk; (focus exact RF.mk rfl); (focus exact RF.mk rfl); (focus exact RF.mk rfl); (focus exact RF.mk rfl); (focus exact xx); focus (first | exact InD.no | (apply InD.so; (focus exact xx))))) | (apply dr_r; focus (apply DL.mk; (focus exact RF.mk rfl); (focus exact xx); (focus exact xx); focus (first | exact InD.no | (apply InD.so; (focus exact xx))))) | (apply dr_l; (focus exact RF.mk rfl); (focus exact RF.mk rfl); (focus exact RF.mk rfl); (focus exact RF.mk rfl); (focus exact RF.mk rfl)) | (apply dr_e; (focus exact RF.mk rfl); (focus exact RF.mk rfl); (focus exact RF.mk rfl); (focus exact RF.mk rfl)) | (apply rd_e; (focus exact xx); focus (repeat first | exact PO.nil | apply PO.zero | (apply PO.ld; (focus exact xx)))) | (apply rd_l; (focus exact xx)) | refine wh_seq ?_ | refine wh_skip ?_ | refine wh_block ?_ | refine wh_end ?_ | refine wh_exit ?_ | refine wh_ret ?_ | refine bk_norm ?_ | refine bk_exit ?_ | refine bk_ret ?_ | refine fr_exit ?_ | refine fr_ret ?_ | refine lp_exit ?_ | refine lp_ret ?_ | refine jn_exit ?_ | refine jn_ret ?_ | refine bk_other rfl ?_ | (apply wr; focus exact xx) | (apply wi; (focus exact xx); (focus exact xx); all_goals intro _; all_goals try first | contradiction | (exfalso; omega) | exact absurd trivial ‹_›) | refine wh_reg ?_ | refine wh_ife ?_ | (apply re; focus exact xx) | (apply rf; (focus exact xx); (focus exact xx); all_goals intro _; all_goals try first | contradiction | (exfalso; omega) | exact absurd trivial ‹_›) | (apply ra; (focus exact xx); (focus exact xx); intro _) | (apply r1; (focus exact xx); (focus exact xx); intro _) | (apply rl; (focus exact xx); (focus exact xx); intro _) | (apply rb; (focus exact xx); (focus exact xx); intro _) | (apply rsi; (focus exact xx); (focus exact xx); all_goals try infer_instance) | (apply rsz; (focus exact xx); (focus exact xx); all_goals try infer_instance) | (apply rt; (focus exact xx); (focus exact xx)) | (apply rso; (focus exact xx); (focus exact xx); all_goals try infer_instance) | (apply rmm; (focus exact xx); intro _) | (apply rsb; (focus exact xx); (focus exact xx)) | (apply ru; (focus exact xx); (focus exact xx)) | (apply rm; (focus exact xx); (focus exact xx); intro _) | (apply rk; (focus exact xx); (focus exact xx); intro _) | (apply rcf; (focus exact xx); (focus (apply ACF.mk; (focus exact xx); (focus exact inferInstance); (focus exact xx); (focus exact inferInstance); (focus exact xx); (focus exact rfl)))) | (apply rco; (focus exact xx); (focus (apply ACO.mk; (focus exact xx); (focus exact xx); (focus exact inferInstance); (focus exact xx); (focus exact xx))); intro _) | (apply rc; (focus exact xx); (focus exact xx)) | (apply rk'; (focus exact xx); (focus exact xx))
    · rename_i h
      exact ⟨by rw [show 0 - K.tmod 10 = ((K.natAbs % 10 : Nat) : Int) by omega], rfl⟩
    · rename_i h
      exact ⟨by rw [show K.tmod 10 = ((K.natAbs % 10 : Nat) : Int) by omega], rfl⟩
  rintro _ _ ⟨rfl, rfl⟩
  have hw2 : WR .u8 (48 + ((K.natAbs % 10 : Nat) : Int)) ((48 + K.natAbs % 10 : Nat) : Int) := ⟨by rw [IntKind.wrap_u8]; omega⟩
  have hb : UInt8.ofNat (((48 + K.natAbs % 10 : Nat) : Int)).toNat = UInt8.ofNat (48 + K.natAbs % 10) := by rw [Int.toNat_natCast]
  have hend : K.tdiv 10 = 0 → decDigits m.natAbs = [UInt8.ofNat (48 + K.natAbs % 10)] ++ t := fun h0 => by
    have h1 : K.natAbs < 10 := by rw [h0] at hq; simp at hq; omega
    rw [hD, dec_small h1, Nat.mod_eq_of_lt h1]
  repeat' first | (apply dr_fin; (focus exact xx)) | (apply dr_v; focus (apply DV.mk; (focus exact RF.mk rfl); (focus exact RF.mk rfl); (focus exact RF.mk rfl); (focus exact RF.mk rfl); (focus exact xx); focus (first | exact InD.no | (apply InD.so; (focus exact xx))))) | (apply dr_r; focus (apply DL.mk; (focus exact RF.mk rfl); (focus exact xx); (focus exact xx); focus (first | exact InD.no | (apply InD.so; (focus exact xx))))) | (apply dr_l; (focus exact RF.mk rfl); (focus exact RF.mk rfl); (focus exact RF.mk rfl); (focus exact RF.mk rfl); (focus exact RF.mk rfl)) | (apply dr_e; (focus exact RF.mk rfl); (focus exact RF.mk rfl); (focus exact RF.mk rfl); (focus exact RF.mk rfl)) | (apply rd_e; (focus exact xx); focus (repeat first | exact PO.nil | apply PO.zero | (apply PO.ld; (focus exact xx)))) | (apply rd_l; (focus exact xx)) | refine wh_seq ?_ | refine wh_skip ?_ | refine wh_block ?_ | refine wh_end ?_ | refine wh_exit ?_ | refine wh_ret ?_ | refine bk_norm ?_ | refine bk_exit ?_ | refine bk_ret ?_ | refine fr_exit ?_ | refine fr_ret ?_ | refine lp_exit ?_ | refine lp_ret ?_ | refine jn_exit ?_ | refine jn_ret ?_ | refine bk_other rfl ?_ | (apply wr; focus exact xx) | (apply wi; (focus exact xx); (focus exact xx); all_goals intro _; all_goals try first | contradiction | (exfalso; omega) | exact absurd trivial ‹_›) | refine wh_reg ?_ | refine wh_ife ?_ | (apply re; focus exact xx) | (apply rf; (focus exact xx); (focus exact xx); all_goals intro _; all_goals try first | contradiction | (exfalso; omega) | exact absurd trivial ‹_›) | (apply ra; (focus exact xx); (focus exact xx); intro _) | (apply r1; (focus exact xx); (focus exact xx); intro _) | (apply rl; (focus exact xx); (focus exact xx); intro _) | (apply rb; (focus exact xx); (focus exact xx); intro _) | (apply rsi; (focus exact xx); (focus exact xx); all_goals try infer_instance) | (apply rsz; (focus exact xx); (focus exact xx); all_goals try infer_instance) | (apply rt; (focus exact xx); (focus exact xx)) | (apply rso; (focus exact xx); (focus exact xx); all_goals try infer_instance) | (apply rmm; (focus exact xx); intro _) | (apply rsb; (focus exact xx); (focus exact xx)) | (apply ru; (focus exact xx); (focus exact xx)) | (apply rm; (focus exact xx); (focus exact xx); intro _) | (apply rk; (focus exact xx); (focus exact xx); intro _) | (apply rcf; (focus exact xx); (focus (apply ACF.mk; (focus exact xx); (focus exact inferInstance); (focus exact xx); (focus exact inferInstance); (focus exact xx); (focus exact rfl)))) | (apply rco; (focus exact xx); (focus (apply ACO.mk; (focus exact xx); (focus exact xx); (focus exact inferInstance); (focus exact xx); (focus exact xx))); intro _) | (apply rc; (focus exact xx); (focus exact xx)) | (apply rk'; (focus exact xx); (focus exact xx))
  · rename_i h0 h
    refine fz ?_
    rw [hb, itoa, if_pos h, hend h0]; rfl
  · rename_i h0 h
    refine fz ?_
    rw [hb, itoa, if_neg h, show m.toNat = m.natAbs by omega, hend h0]
  · rename_i h0
    have h1 : ¬ K.natAbs < 10 := fun h1 => h0 (by omega)
    refine ⟨_, _, ?_, .of (List.nil_sublist _), K.tdiv 10, _, rfl, hqb.1, hqb.2, ?_, rfl, rfl⟩
    · omega
    · rw [hD, dec_big h1, hq, hb, List.append_assoc]⟩
end Go.AM

set_option linter.unusedVariables false
set_option linter.unusedSimpArgs false
namespace Go.AM
open Go.Lib
attribute [-simp] List.length_flatten List.map_flatten List.map_take List.map_map List.flatten_append
theorem dec_head : ∀ u, 1 ≤ u → ∃ c t, decDigits u = c :: t ∧ c.toNat ≠ 48 := dec_rec
  (fun u h h1 => ⟨_, _, dec_small h, by rw [byte_nat h]; omega⟩)
  (fun u h ih h1 => by
    obtain ⟨c, t, h2, h3⟩ := ih (by omega)
    exact ⟨c, _, by rw [dec_big h, h2]; rfl, h3⟩)
theorem dec_cons (u : Nat) : ∃ c t, decDigits u = c :: t ∧ dig c = true := by
  cases h : decDigits u with
  | nil => have := dec_ne u; rw [h] at this; cases this
  | cons c t =>
    refine ⟨c, t, rfl, ?_⟩
    have := dec_dig u
    rw [h] at this
    simp only [List.all_cons, Bool.and_eq_true] at this
    exact this.1
theorem sgn_dec (u : Nat) (r : List UInt8) : sgn (decDigits u ++ r) = 0 := by
  obtain ⟨c, t, h, hc⟩ := dec_cons u
  rw [h, sgn]
  rw [if_neg]
  intro h'
  simp only [List.cons_append, List.isPrefixOf, Bool.and_eq_true, beq_iff_eq] at h'
  rw [← h'.1] at hc
  revert hc; decide
theorem sgn_neg (r : List UInt8) : sgn (45 :: r) = 1 := by simp [sgn, List.isPrefixOf]
theorem itoa_pos {q : Int} (h : ¬ q < 0) : itoa q = decDigits q.natAbs := by
  rw [itoa, if_neg h, show q.toNat = q.natAbs by omega]
theorem itoa_ng {q : Int} (h : q < 0) : itoa q = 45 :: decDigits q.natAbs := by rw [itoa, if_pos h]
theorem get_itoa {q : Int} (h : okN q) : getS (itoa q) = (q, 0) := by
  obtain ⟨h1, h2⟩ := h
  by_cases hq : q < 0
  · rw [itoa_ng hq]
    have hs := sgn_neg (decDigits q.natAbs)
    have hd : (45 :: decDigits q.natAbs).drop (sgn (45 :: decDigits q.natAbs)) = decDigits q.natAbs := by rw [hs]; rfl
    have hok : okD (45 :: decDigits q.natAbs) := by
      unfold okD
      rw [hd]
      refine ⟨fun h => ?_, dec_dig _, fun h => ?_⟩
      · have := dec_ne q.natAbs; rw [h] at this; cases this
      · obtain ⟨c, t, h3, h4⟩ := dec_head q.natAbs (by omega)
        rw [h3] at h
        exact h4 h.1
    unfold getS
    rw [if_pos hok, hd, dec_num, mostN, hs, if_pos (by omega), if_pos rfl]
    rw [show -(q.natAbs : Int) = q by omega]
  · rw [itoa_pos hq]
    have hs : sgn (decDigits q.natAbs) = 0 := by have := sgn_dec q.natAbs []; rwa [List.append_nil] at this
    have hd : (decDigits q.natAbs).drop (sgn (decDigits q.natAbs)) = decDigits q.natAbs := by rw [hs]; rfl
    have hok : okD (decDigits q.natAbs) := by
      unfold okD
      rw [hd]
      refine ⟨fun h => ?_, dec_dig _, fun h => ?_⟩
      · have := dec_ne q.natAbs; rw [h] at this; cases this
      · by_cases h0 : q.natAbs = 0
        · rw [h0] at h; exact h.2 (by rw [dec_small (by decide)]; decide)
        · obtain ⟨c, t, h3, h4⟩ := dec_head q.natAbs (by omega)
          rw [h3] at h
          exact h4 h.1
    unfold getS
    rw [if_pos hok, hd, dec_num, mostN, hs, if_pos (by omega), if_neg (by decide)]
    rw [show (q.natAbs : Int) = q by omega]
theorem tw_all {p : UInt8 → Bool} : ∀ {l r : List UInt8}, l.all p = true → (l ++ r).takeWhile p = l ++ r.takeWhile p
  | [], r, _ => rfl
  | c :: l, r, h => by
    simp only [List.all_cons, Bool.and_eq_true] at h
    rw [List.cons_append, List.takeWhile_cons_of_pos h.1, tw_all h.2]; rfl
theorem span_itoa (q : Int) (r : List UInt8) (hr : r.takeWhile dig = []) : spanR (itoa q ++ r) = (itoa q).length := by
  by_cases hq : q < 0
  · rw [itoa_ng hq, List.cons_append, spanR, sgn_neg]
    show 1 + ((decDigits q.natAbs ++ r).takeWhile dig).length = _
    rw [tw_all (dec_dig _), hr, List.append_nil, List.length_cons]; omega
  · rw [itoa_pos hq, spanR, sgn_dec]
    show 0 + ((decDigits q.natAbs ++ r).takeWhile dig).length = _
    rw [tw_all (dec_dig _), hr, List.append_nil]; omega
theorem itoa_ne (q : Int) : 1 ≤ (itoa q).length := by
  by_cases hq : q < 0
  · rw [itoa_ng hq]; simp
  · rw [itoa_pos hq]; exact dec_ne _
theorem span_at (s t : List UInt8) (ht : 0 < t.length) : spanI (s ++ t) (s.length : Nat) = (spanR t : Nat) := by
  unfold spanI
  rw [if_neg (by rw [List.length_append]; omega), Int.toNat_natCast, List.drop_left]
theorem dec_inv : ∀ (k : Nat) (d : List UInt8), d.length = k + 1 → d.all dig = true → (nth d 0 = 48 → d = [48]) → decDigits (numV d) = d := by
  intro k
  induction k with
  | zero =>
    intro d hl hd _
    match d, hl with
    | [c], _ =>
      simp only [List.all_cons, List.all_nil, Bool.and_true, dig, Bool.and_eq_true, decide_eq_true_eq] at hd
      show decDigits (10 * 0 + (c.toNat - 48)) = [c]
      rw [dec_small (by omega)]
      congr 1
      apply UInt8.toNat_inj.1
      rw [byte_nat (by omega)]; omega
  | succ k ih =>
    intro d hl hd h48
    have hne0 : d ≠ [] := fun h => by rw [h] at hl; cases hl
    obtain ⟨d', c, rfl⟩ : ∃ d' c, d = d' ++ [c] := ⟨d.dropLast, d.getLast hne0, (List.dropLast_concat_getLast hne0).symm⟩
    rw [List.length_append, List.length_singleton] at hl
    rw [List.all_append, Bool.and_eq_true] at hd
    have hc := hd.2
    simp only [List.all_cons, List.all_nil, Bool.and_true, dig, Bool.and_eq_true, decide_eq_true_eq] at hc
    have h0 : nth (d' ++ [c]) 0 = nth d' 0 := by
      rw [nth_eq (by rw [List.length_append]; omega), nth_eq (by omega), List.getElem_append_left (by omega)]
    have hne : nth d' 0 ≠ 48 := fun h => by
      have := congrArg List.length (h48 (h0.trans h))
      rw [List.length_append, List.length_singleton, List.length_singleton] at this
      omega
    have hI := ih d' (by omega) hd.1 (fun h => absurd h hne)
    have h1 : 1 ≤ numV d' := by
      rcases Nat.eq_zero_or_pos (numV d') with h | h
      · rw [h, dec_small (by decide)] at hI
        rw [← hI] at hne
        exact absurd (by decide) hne
      · exact h
    rw [numV_snoc, dec_big (by omega), show (10 * numV d' + (c.toNat - 48)) / 10 = numV d' by omega, hI, show (10 * numV d' + (c.toNat - 48)) % 10 = c.toNat - 48 by omega]
    congr 2
    apply UInt8.toNat_inj.1
    rw [byte_nat (by omega)]; omega
theorem itoa_get {s : List UInt8} (h : (getS s).2 = 0) : okN (getS s).1 ∧ itoa (getS s).1 = s := by
  unfold getS at h ⊢
  by_cases ho : okD s
  · rw [if_pos ho] at h ⊢
    by_cases hm : numV (s.drop (sgn s)) ≤ mostN s
    · rw [if_pos hm]
      obtain ⟨h1, h2, h3⟩ := ho
      have hI : decDigits (numV (s.drop (sgn s))) = s.drop (sgn s) := by
        refine dec_inv ((s.drop (sgn s)).length - 1) _ ?_ h2 fun h4 => ?_
        · have : (s.drop (sgn s)).length ≠ 0 := fun h => h1 (List.length_eq_zero_iff.1 h)
          omega
        · have hs : s = [48] := Decidable.not_not.1 fun h5 => h3 ⟨by rw [h4]; rfl, h5⟩
          rw [hs]; rfl
      have hsg : sgn s = 0 ∨ sgn s = 1 := by unfold sgn; split <;> simp
      rcases hsg with hg | hg
      · have hd : s.drop (sgn s) = s := by rw [hg]; rfl
        rw [hd] at hI hm ⊢
        have hm' : numV s ≤ 9223372036854775807 := by unfold mostN at hm; rw [hg] at hm; exact hm
        rw [if_neg (by rw [hg]; decide)]
        refine ⟨⟨by simp only; omega, by simp only; omega⟩, ?_⟩
        rw [itoa_pos (by simp only; omega)]
        show decDigits ((numV s : Int)).natAbs = s
        rw [Int.natAbs_natCast, hI]
      · have hs : s = 45 :: s.drop 1 := by
          unfold sgn at hg
          split at hg
          · rename_i hp
            cases s with
            | nil => simp [List.isPrefixOf] at hp
            | cons c t =>
              simp only [List.isPrefixOf, Bool.and_eq_true, beq_iff_eq] at hp
              rw [← hp.1]; rfl
          · cases hg
        rw [hg] at hI hm h3 ⊢
        have hm' : numV (s.drop 1) ≤ 9223372036854775808 := by unfold mostN at hm; rw [hg] at hm; exact hm
        have hpos : 1 ≤ numV (s.drop 1) := by
          rcases Nat.eq_zero_or_pos (numV (s.drop 1)) with h0 | h0
          · rw [h0, dec_small (by decide)] at hI
            refine absurd ⟨?_, ?_⟩ h3
            · rw [← hI]; decide
            · rw [hs]; intro h'; injection h' with h' _; revert h'; decide
          · exact h0
        rw [if_pos rfl]
        refine ⟨⟨by simp only; omega, by simp only; omega⟩, ?_⟩
        rw [itoa_ng (by simp only; omega)]
        show 45 :: decDigits (-(numV (s.drop 1) : Int)).natAbs = s
        rw [Int.natAbs_neg, Int.natAbs_natCast, hI, ← hs]
    · rw [if_neg hm] at h; cases h
  · rw [if_neg ho] at h; cases h
theorem get_bad {s : List UInt8} (h : ¬ (getS s).2 = 0) : (getS s).1 = 0 := by
  unfold getS at h ⊢
  split
  · rename_i h1
    rw [if_pos h1] at h
    split
    · rename_i h2; rw [if_pos h2] at h; exact absurd rfl h
    · rfl
  · rfl
theorem span_sign {s : List UInt8} {i : Nat} (h : 0 < spanI s i) (hi : i < s.length) : ((nth s i).toNat : Int) = 45 ∨ (48 ≤ ((nth s i).toNat : Int) ∧ ((nth s i).toNat : Int) ≤ 57) := by
  unfold spanI at h
  rw [if_neg (by omega), Int.toNat_natCast, List.drop_eq_getElem_cons hi, ← nth_eq hi] at h
  generalize nth s i = c at *
  by_cases h1 : c = 45
  · left; rw [h1]; rfl
  · have hs : sgn (c :: s.drop (i + 1)) = 0 := by
      unfold sgn; rw [if_neg]
      intro h'
      simp only [List.isPrefixOf, Bool.and_eq_true, beq_iff_eq] at h'
      exact h1 h'.1.symm
    rw [spanR, hs] at h
    cases hd : dig c with
    | true =>
      simp only [dig, Bool.and_eq_true, decide_eq_true_eq] at hd
      right; omega
    | false =>
      rw [List.drop_zero, List.takeWhile_cons_of_neg (by rw [hd]; decide)] at h
      simp at h
end Go.AM

set_option linter.unusedVariables false
set_option linter.unusedSimpArgs false
namespace Go.AM
open Go.Lib
attribute [-simp] List.length_flatten List.map_flatten List.map_take List.map_map List.flatten_append
theorem span_leq (s : List UInt8) (a : Nat) (h : a ≤ s.length) : ∃ k : Nat, spanI s a = k ∧ a + k ≤ s.length := by
  unfold spanI
  split
  · exact ⟨0, rfl, h⟩
  · refine ⟨_, rfl, ?_⟩
    have h1 := sgn_le (s.drop (a : Int).toNat)
    have h2 := tw_dw (p := dig) ((s.drop (a : Int).toNat).drop (sgn (s.drop (a : Int).toNat)))
    rw [List.length_drop, List.length_drop] at h2
    rw [List.length_drop] at h1
    rw [spanR]
    simp only [Int.toNat_natCast] at *
    omega
abbrev ex1 : List UInt8 := [45, 57, 50, 50, 51, 51, 55, 50, 48, 51, 54, 56, 53, 52, 55, 55, 53, 56, 48, 56]
abbrev ex2 : List UInt8 := [57, 50, 50, 51, 51, 55, 50, 48, 51, 54, 56, 53, 52, 55, 55, 53, 56, 48, 56]
abbrev ex3 : List UInt8 := [120, 45, 49, 50, 121]
theorem ex1_v : getS ex1 = (-9223372036854775808, 0) := by decide +kernel
theorem ex2_v : getS ex2 = (0, 3) := by decide +kernel
theorem ex3_v : spanI ex3 1 = 3 := by decide +kernel
theorem put5 : itoa (-5) = [45, 53] := by
  rw [itoa_ng (by decide)]
  show 45 :: decDigits 5 = _
  rw [dec_small (by decide)]; rfl
set_option maxHeartbeats 2000000 in
instance awake05 : PCon T0 n.law05_awake [] false True (.bool true) := ⟨fun _ => by
  have c1 : PCon T0 n.num_Get [.str ex1] false True (.tup [.int .i64 (-9223372036854775808), .int .i64 0]) := ⟨fun _ => by have := (num_Get ex1).con (by decide); rw [ex1_v] at this; exact this⟩
  have c2 : PCon T0 n.num_Get [.str ex2] false True (.tup [.int .i64 0, .int .i64 3]) := ⟨fun _ => by have := (num_Get ex2).con (by decide); rw [ex2_v] at this; exact this⟩
  have c3 : PCon T0 n.num_Put [.int .i64 (-5)] true True (.str [45, 53]) := ⟨fun _ => by have := (num_Put (-5)).con ⟨by decide, by decide⟩; rw [put5] at this; exact this⟩
  have c4 : PCon T0 n.num_Span [.str ex3, .int .i64 1] false True (.int .i64 3) := ⟨fun _ => by have := (num_Span ex3 1).con (by decide); rw [ex3_v] at this; exact this⟩
  refine pc tabOk ?_
  repeat' first | (apply dr_fin; (focus exact xx)) | (apply dr_v; focus (apply DV.mk; (focus exact RF.mk rfl); (focus exact RF.mk rfl); (focus exact RF.mk rfl); (focus exact RF.mk rfl); (focus exact xx); focus (first | exact InD.no | (apply InD.so; (focus exact xx))))) | (apply dr_r; focus (apply DL.mk; (focus exact RF.mk rfl); (focus exact xx); (focus exact xx); focus (first | exact InD.no | (apply InD.so; (focus exact xx))))) | (apply dr_l; (focus exact RF.mk rfl); (focus exact RF.mk rfl); (focus exact RF.mk rfl); (focus exact RF.mk rfl); (focus exact RF.mk rfl)) | (apply dr_e; (focus exact RF.mk rfl); (focus exact RF.mk rfl); (focus exact RF.mk rfl); (focus exact RF.mk rfl)) | (apply rd_e; (focus exact xx); focus (repeat first | exact PO.nil | apply PO.zero | (apply PO.ld; (focus exact xx)))) | (apply rd_l; (focus exact xx)) | refine wh_seq ?_ | refine wh_skip ?_ | refine wh_block ?_ | refine wh_end ?_ | refine wh_exit ?_ | refine wh_ret ?_ | refine bk_norm ?_ | refine bk_exit ?_ | refine bk_ret ?_ | refine fr_exit ?_ | refine fr_ret ?_ | refine lp_exit ?_ | refine lp_ret ?_ | refine jn_exit ?_ | refine jn_ret ?_ | refine bk_other rfl ?_ | (apply wr; focus exact xx) | (apply wi; (focus exact xx); (focus exact xx); all_goals intro _; all_goals try first | contradiction | (exfalso; omega) | exact absurd trivial ‹_›) | refine wh_reg ?_ | refine wh_ife ?_ | (apply re; focus exact xx) | (apply rf; (focus exact xx); (focus exact xx); all_goals intro _; all_goals try first | contradiction | (exfalso; omega) | exact absurd trivial ‹_›) | (apply ra; (focus exact xx); (focus exact xx); intro _) | (apply r1; (focus exact xx); (focus exact xx); intro _) | (apply rl; (focus exact xx); (focus exact xx); intro _) | (apply rb; (focus exact xx); (focus exact xx); intro _) | (apply rsi; (focus exact xx); (focus exact xx); all_goals try infer_instance) | (apply rsz; (focus exact xx); (focus exact xx); all_goals try infer_instance) | (apply rt; (focus exact xx); (focus exact xx)) | (apply rso; (focus exact xx); (focus exact xx); all_goals try infer_instance) | (apply rmm; (focus exact xx); intro _) | (apply rsb; (focus exact xx); (focus exact xx)) | (apply ru; (focus exact xx); (focus exact xx)) | (apply rm; (focus exact xx); (focus exact xx); intro _) | (apply rk; (focus exact xx); (focus exact xx); intro _) | (apply rcf; (focus exact xx); (focus (apply ACF.mk; (focus exact xx); (focus exact inferInstance); (focus exact xx); (focus exact inferInstance); (focus exact xx); (focus exact rfl)))) | (apply rco; (focus exact xx); (focus (apply ACO.mk; (focus exact xx); (focus exact xx); (focus exact inferInstance); (focus exact xx); (focus exact xx))); intro _) | (apply rc; (focus exact xx); (focus exact xx)) | (apply rk'; (focus exact xx); (focus exact xx))
  refine fz ?_
  decide +kernel⟩
def okS (s : List UInt8) : Prop := s.length ≤ 1048576
set_option maxHeartbeats 2000000 in
instance numTells (q : Int) (s : List UInt8) (p : Int) : PCon T0 n.law05_NumTells [.int .i64 q, .str s, .int .i64 p] false (okN q ∧ okS s) (.bool true) := ⟨fun ⟨hq, hs⟩ => by
  have hs : s.length ≤ 1048576 := hs
  have c3 : PCon T0 n.num_Put [.int .i64 q] true True (.str (itoa q)) := ⟨fun _ => (num_Put q).con hq⟩
  have c4 : PCon T0 n.ref05_Put [.int .i64 q] true True (.str (itoa q)) := ⟨fun _ => (ref05_Put q).con hq⟩
  refine pc tabOk ?_
  repeat' first | (apply dr_fin; (focus exact xx)) | (apply dr_v; focus (apply DV.mk; (focus exact RF.mk rfl); (focus exact RF.mk rfl); (focus exact RF.mk rfl); (focus exact RF.mk rfl); (focus exact xx); focus (first | exact InD.no | (apply InD.so; (focus exact xx))))) | (apply dr_r; focus (apply DL.mk; (focus exact RF.mk rfl); (focus exact xx); (focus exact xx); focus (first | exact InD.no | (apply InD.so; (focus exact xx))))) | (apply dr_l; (focus exact RF.mk rfl); (focus exact RF.mk rfl); (focus exact RF.mk rfl); (focus exact RF.mk rfl); (focus exact RF.mk rfl)) | (apply dr_e; (focus exact RF.mk rfl); (focus exact RF.mk rfl); (focus exact RF.mk rfl); (focus exact RF.mk rfl)) | (apply rd_e; (focus exact xx); focus (repeat first | exact PO.nil | apply PO.zero | (apply PO.ld; (focus exact xx)))) | (apply rd_l; (focus exact xx)) | refine wh_seq ?_ | refine wh_skip ?_ | refine wh_block ?_ | refine wh_end ?_ | refine wh_exit ?_ | refine wh_ret ?_ | refine bk_norm ?_ | refine bk_exit ?_ | refine bk_ret ?_ | refine fr_exit ?_ | refine fr_ret ?_ | refine lp_exit ?_ | refine lp_ret ?_ | refine jn_exit ?_ | refine jn_ret ?_ | refine bk_other rfl ?_ | (apply wr; focus exact xx) | (apply wi; (focus exact xx); (focus exact xx); all_goals intro _; all_goals try first | contradiction | (exfalso; omega) | exact absurd trivial ‹_›) | refine wh_reg ?_ | refine wh_ife ?_ | (apply re; focus exact xx) | (apply rf; (focus exact xx); (focus exact xx); all_goals intro _; all_goals try first | contradiction | (exfalso; omega) | exact absurd trivial ‹_›) | (apply ra; (focus exact xx); (focus exact xx); intro _) | (apply r1; (focus exact xx); (focus exact xx); intro _) | (apply rl; (focus exact xx); (focus exact xx); intro _) | (apply rb; (focus exact xx); (focus exact xx); intro _) | (apply rsi; (focus exact xx); (focus exact xx); all_goals try infer_instance) | (apply rsz; (focus exact xx); (focus exact xx); all_goals try infer_instance) | (apply rt; (focus exact xx); (focus exact xx)) | (apply rso; (focus exact xx); (focus exact xx); all_goals try infer_instance) | (apply rmm; (focus exact xx); intro _) | (apply rsb; (focus exact xx); (focus exact xx)) | (apply ru; (focus exact xx); (focus exact xx)) | (apply rm; (focus exact xx); (focus exact xx); intro _) | (apply rk; (focus exact xx); (focus exact xx); intro _) | (apply rcf; (focus exact xx); (focus (apply ACF.mk; (focus exact xx); (focus exact inferInstance); (focus exact xx); (focus exact inferInstance); (focus exact xx); (focus exact rfl)))) | (apply rco; (focus exact xx); (focus (apply ACO.mk; (focus exact xx); (focus exact xx); (focus exact inferInstance); (focus exact xx); (focus exact xx))); intro _) | (apply rc; (focus exact xx); (focus exact xx)) | (apply rk'; (focus exact xx); (focus exact xx))
  · exact fz rfl
  · refine fz ?_
    simp⟩
set_option maxHeartbeats 2000000 in
instance numBack (q : Int) (s : List UInt8) : PCon T0 n.law05_NumBack [.int .i64 q, .str s] false (okN q ∧ okS s) (.bool true) := ⟨fun ⟨hq, hs⟩ => by
  have hs : s.length ≤ 1048576 := hs
  have htl := itoa_len hq
  have c3 : PCon T0 n.num_Put [.int .i64 q] true True (.str (itoa q)) := ⟨fun _ => (num_Put q).con hq⟩
  have c5 : PCon T0 n.num_Get [.str (itoa q)] false True (.tup [.int .i64 q, .int .i64 0]) := ⟨fun _ => by have := (num_Get (itoa q)).con (by omega); rw [get_itoa hq] at this; exact this⟩
  have hsp : spanI (itoa q) 0 = ((itoa q).length : Nat) := by
    have h1 := span_at [] (itoa q) (itoa_ne q)
    have h2 := span_itoa q [] rfl
    rw [List.append_nil] at h2
    rw [h2] at h1
    exact h1
  have c6 : PCon T0 n.num_Span [.str (itoa q), .int .i64 0] false True (.int .i64 ((itoa q).length : Nat)) := ⟨fun _ => by have := (num_Span (itoa q) 0).con (by omega); rw [hsp] at this; exact this⟩
  obtain ⟨g, hg⟩ : ∃ g, getS s = g := ⟨_, rfl⟩
  have c7 : PCon T0 n.num_Get [.str s] false True (.tup [.int .i64 g.1, .int .i64 g.2]) := ⟨fun _ => by have := (num_Get s).con hs; rw [hg] at this; exact this⟩
  have hbk : g.2 = 0 → okN g.1 ∧ itoa g.1 = s := fun h => by have := itoa_get (s := s) (by rw [hg]; exact h); rw [hg] at this; exact this
  have hbd : ¬ g.2 = 0 → g.1 = 0 := fun h => by have := get_bad (s := s) (by rw [hg]; exact h); rw [hg] at this; exact this
  have hok : okN g.1 := by
    by_cases h : g.2 = 0
    · exact (hbk h).1
    · rw [hbd h]; exact ⟨by decide, by decide⟩
  have c8 : PCon T0 n.num_Put [.int .i64 g.1] true True (.str (itoa g.1)) := ⟨fun _ => (num_Put g.1).con hok⟩
  refine pc tabOk ?_
  repeat' first | (apply dr_fin; (focus exact xx)) | (apply dr_v; focus (apply DV.mk; (focus exact RF.mk rfl); (focus exact RF.mk rfl); (focus exact RF.mk rfl); (focus exact RF.mk rfl); (focus exact xx); focus (first | exact InD.no | (apply InD.so; (focus exact xx))))) | (apply dr_r; focus (apply DL.mk; (focus exact RF.mk rfl); (focus exact xx); (focus exact xx); focus (first | exact InD.no | (apply InD.so; (focus exact xx))))) | (apply dr_l; (focus exact RF.mk rfl); (focus exact RF.mk rfl); (focus exact RF.mk rfl); (focus exact RF.mk rfl); (focus exact RF.mk rfl)) | (apply dr_e; (focus exact RF.mk rfl); (focus exact RF.mk rfl); (focus exact RF.mk rfl); (focus exact RF.mk rfl)) | (apply rd_e; (focus exact xx); focus (repeat first | exact PO.nil | apply PO.zero | (apply PO.ld; (focus exact xx)))) | (apply rd_l; (focus exact xx)) | refine wh_seq ?_ | refine wh_skip ?_ | refine wh_block ?_ | refine wh_end ?_ | refine wh_exit ?_ | refine wh_ret ?_ | refine bk_norm ?_ | refine bk_exit ?_ | refine bk_ret ?_ | refine fr_exit ?_ | refine fr_ret ?_ | refine lp_exit ?_ | refine lp_ret ?_ | refine jn_exit ?_ | refine jn_ret ?_ | refine bk_other rfl ?_ | (apply wr; focus exact xx) | (apply wi; (focus exact xx); (focus exact xx); all_goals intro _; all_goals try first | contradiction | (exfalso; omega) | exact absurd trivial ‹_›) | refine wh_reg ?_ | refine wh_ife ?_ | (apply re; focus exact xx) | (apply rf; (focus exact xx); (focus exact xx); all_goals intro _; all_goals try first | contradiction | (exfalso; omega) | exact absurd trivial ‹_›) | (apply ra; (focus exact xx); (focus exact xx); intro _) | (apply r1; (focus exact xx); (focus exact xx); intro _) | (apply rl; (focus exact xx); (focus exact xx); intro _) | (apply rb; (focus exact xx); (focus exact xx); intro _) | (apply rsi; (focus exact xx); (focus exact xx); all_goals try infer_instance) | (apply rsz; (focus exact xx); (focus exact xx); all_goals try infer_instance) | (apply rt; (focus exact xx); (focus exact xx)) | (apply rso; (focus exact xx); (focus exact xx); all_goals try infer_instance) | (apply rmm; (focus exact xx); intro _) | (apply rsb; (focus exact xx); (focus exact xx)) | (apply ru; (focus exact xx); (focus exact xx)) | (apply rm; (focus exact xx); (focus exact xx); intro _) | (apply rk; (focus exact xx); (focus exact xx); intro _) | (apply rcf; (focus exact xx); (focus (apply ACF.mk; (focus exact xx); (focus exact inferInstance); (focus exact xx); (focus exact inferInstance); (focus exact xx); (focus exact rfl)))) | (apply rco; (focus exact xx); (focus (apply ACO.mk; (focus exact xx); (focus exact xx); (focus exact inferInstance); (focus exact xx); (focus exact xx))); intro _) | (apply rc; (focus exact xx); (focus exact xx)) | (apply rk'; (focus exact xx); (focus exact xx))
  · exact fz rfl
  · refine fz ?_
    by_cases h : g.2 = 0
    · simp [h, (hbk h).2]
    · simp [h, hbd h]⟩
set_option maxHeartbeats 2000000 in
instance numSpans (q : Int) (s : List UInt8) : PCon T0 n.law05_NumSpans [.int .i64 q, .str s] false (okN q ∧ okS s) (.bool true) := ⟨fun ⟨hq, hs⟩ => by
  have hs : s.length ≤ 1048576 := hs
  have htl := itoa_len hq
  have c3 : PCon T0 n.num_Put [.int .i64 q] true True (.str (itoa q)) := ⟨fun _ => (num_Put q).con hq⟩
  refine pc tabOk ?_
  repeat' first | (apply dr_fin; (focus exact xx)) | (apply dr_v; focus (apply DV.mk; (focus exact RF.mk rfl); (focus exact RF.mk rfl); (focus exact RF.mk rfl); (focus exact RF.mk rfl); (focus exact xx); focus (first | exact InD.no | (apply InD.so; (focus exact xx))))) | (apply dr_r; focus (apply DL.mk; (focus exact RF.mk rfl); (focus exact xx); (focus exact xx); focus (first | exact InD.no | (apply InD.so; (focus exact xx))))) | (apply dr_l; (focus exact RF.mk rfl); (focus exact RF.mk rfl); (focus exact RF.mk rfl); (focus exact RF.mk rfl); (focus exact RF.mk rfl)) | (apply dr_e; (focus exact RF.mk rfl); (focus exact RF.mk rfl); (focus exact RF.mk rfl); (focus exact RF.mk rfl)) | (apply rd_e; (focus exact xx); focus (repeat first | exact PO.nil | apply PO.zero | (apply PO.ld; (focus exact xx)))) | (apply rd_l; (focus exact xx)) | refine wh_seq ?_ | refine wh_skip ?_ | refine wh_block ?_ | refine wh_end ?_ | refine wh_exit ?_ | refine wh_ret ?_ | refine bk_norm ?_ | refine bk_exit ?_ | refine bk_ret ?_ | refine fr_exit ?_ | refine fr_ret ?_ | refine lp_exit ?_ | refine lp_ret ?_ | refine jn_exit ?_ | refine jn_ret ?_ | refine bk_other rfl ?_ | (apply wr; focus exact xx) | refine wh_reg ?_ | refine wh_ife ?_ | (apply re; focus exact xx) | (apply ra; (focus exact xx); (focus exact xx); intro _) | (apply r1; (focus exact xx); (focus exact xx); intro _) | (apply rl; (focus exact xx); (focus exact xx); intro _) | (apply rb; (focus exact xx); (focus exact xx); intro _) | (apply rsi; (focus exact xx); (focus exact xx); all_goals try infer_instance) | (apply rsz; (focus exact xx); (focus exact xx); all_goals try infer_instance) | (apply rt; (focus exact xx); (focus exact xx)) | (apply rso; (focus exact xx); (focus exact xx); all_goals try infer_instance) | (apply rmm; (focus exact xx); intro _) | (apply rsb; (focus exact xx); (focus exact xx)) | (apply ru; (focus exact xx); (focus exact xx)) | (apply rm; (focus exact xx); (focus exact xx); intro _) | (apply rk; (focus exact xx); (focus exact xx); intro _) | (apply rcf; (focus exact xx); (focus (apply ACF.mk; (focus exact xx); (focus exact inferInstance); (focus exact xx); (focus exact inferInstance); (focus exact xx); (focus exact rfl)))) | (apply rco; (focus exact xx); (focus (apply ACO.mk; (focus exact xx); (focus exact xx); (focus exact inferInstance); (focus exact xx); (focus exact xx))); intro _) | (apply rc; (focus exact xx); (focus exact xx)) | (apply rk'; (focus exact xx); (focus exact xx))
  ((first | apply wi | apply rf); (focus exact xx); (focus exact xx); all_goals intro _)
  · repeat' first | (apply dr_fin; (focus exact xx)) | (apply dr_v; focus (apply DV.mk; (focus exact RF.mk rfl); (focus exact RF.mk rfl); (focus exact RF.mk rfl); (focus exact RF.mk rfl); (focus exact xx); focus (first | exact InD.no | (apply InD.so; (focus exact xx))))) | (apply dr_r; focus (apply DL.mk; (focus exact RF.mk rfl); (focus exact xx); (focus exact xx); focus (first | exact InD.no | (apply InD.so; (focus exact xx))))) | (apply dr_l; (focus exact RF.mk rfl); (focus exact RF.mk rfl); (focus exact RF.mk rfl); (focus exact RF.mk rfl); (focus exact RF.mk rfl)) | (apply dr_e; (focus exact RF.mk rfl); (focus exact RF.mk rfl); (focus exact RF.mk rfl); (focus exact RF.mk rfl)) | (apply rd_e; (focus exact xx); focus (repeat first | exact PO.nil | apply PO.zero | (apply PO.ld; (focus exact xx)))) | (apply rd_l; (focus exact xx)) | refine wh_seq ?_ | refine wh_skip ?_ | refine wh_block ?_ | refine wh_end ?_ | refine wh_exit ?_ | refine wh_ret ?_ | refine bk_norm ?_ | refine bk_exit ?_ | refine bk_ret ?_ | refine fr_exit ?_ | refine fr_ret ?_ | refine lp_exit ?_ | refine lp_ret ?_ | refine jn_exit ?_ | refine jn_ret ?_ | refine bk_other rfl ?_ | (apply wr; focus exact xx) | (apply wi; (focus exact xx); (focus exact xx); all_goals intro _; all_goals try first | contradiction | (exfalso; omega) | exact absurd trivial ‹_›) | refine wh_reg ?_ | refine wh_ife ?_ | (apply re; focus exact xx) | (apply rf; (focus exact xx); (focus exact xx); all_goals intro _; all_goals try first | contradiction | (exfalso; omega) | exact absurd trivial ‹_›) | (apply ra; (focus exact xx); (focus exact xx); intro _) | (apply r1; (focus exact xx); (focus exact xx); intro _) | (apply rl; (focus exact xx); (focus exact xx); intro _) | (apply rb; (focus exact xx); (focus exact xx); intro _) | (apply rsi; (focus exact xx); (focus exact xx); all_goals try infer_instance) | (apply rsz; (focus exact xx); (focus exact xx); all_goals try infer_instance) | (apply rt; (focus exact xx); (focus exact xx)) | (apply rso; (focus exact xx); (focus exact xx); all_goals try infer_instance) | (apply rmm; (focus exact xx); intro _) | (apply rsb; (focus exact xx); (focus exact xx)) | (apply ru; (focus exact xx); (focus exact xx)) | (apply rm; (focus exact xx); (focus exact xx); intro _) | (apply rk; (focus exact xx); (focus exact xx); intro _) | (apply rcf; (focus exact xx); (focus (apply ACF.mk; (focus exact xx); (focus exact inferInstance); (focus exact xx); (focus exact inferInstance); (focus exact xx); (focus exact rfl)))) | (apply rco; (focus exact xx); (focus (apply ACO.mk; (focus exact xx); (focus exact xx); (focus exact inferInstance); (focus exact xx); (focus exact xx))); intro _) | (apply rc; (focus exact xx); (focus exact xx)) | (apply rk'; (focus exact xx); (focus exact xx))
    exact fz rfl
  rename_i h100
  generalize ht : itoa q = t at *
  have hsp : spanI ((s ++ t) ++ [59]) (s.length : Nat) = (t.length : Nat) := by
    have h1 := span_at s (t ++ [59]) (by rw [List.length_append]; simp)
    have h2 := span_itoa q [59] rfl
    rw [ht] at h2
    rw [h2] at h1
    rw [List.append_assoc]; exact h1
  have c4 : PCon T0 n.num_Span [.str ((s ++ t) ++ [59]), .int .i64 (s.length : Nat)] false True (.int .i64 (t.length : Nat)) := ⟨fun _ => by
    have := (num_Span ((s ++ t) ++ [59]) (s.length : Nat)).con (by rw [List.length_append, List.length_append, List.length_singleton]; omega)
    rw [hsp] at this; exact this⟩
  repeat' first | (apply dr_fin; (focus exact xx)) | (apply dr_v; focus (apply DV.mk; (focus exact RF.mk rfl); (focus exact RF.mk rfl); (focus exact RF.mk rfl); (focus exact RF.mk rfl); (focus exact xx); focus (first | exact InD.no | (apply InD.so; (focus exact xx))))) | (apply dr_r; focus (apply DL.mk; (focus exact RF.mk rfl); (focus exact xx); (focus exact xx); focus (first | exact InD.no | (apply InD.so; (focus exact xx))))) | (apply dr_l; (focus exact RF.mk rfl); (focus exact RF.mk rfl); (focus exact RF.mk rfl); (focus exact RF.mk rfl); (focus exact RF.mk rfl)) | (apply dr_e; (focus exact RF.mk rfl); (focus exact RF.mk rfl); (focus exact RF.mk rfl); (focus exact RF.mk rfl)) | (apply rd_e; (focus exact xx); focus (repeat first | exact PO.nil | apply PO.zero | (apply PO.ld; (focus exact xx)))) | (apply rd_l; (focus exact xx)) | refine wh_seq ?_ | refine wh_skip ?_ | refine wh_block ?_ | refine wh_end ?_ | refine wh_exit ?_ | refine wh_ret ?_ | refine bk_norm ?_ | refine bk_exit ?_ | refine bk_ret ?_ | refine fr_exit ?_ | refine fr_ret ?_ | refine lp_exit ?_ | refine lp_ret ?_ | refine jn_exit ?_ | refine jn_ret ?_ | refine bk_other rfl ?_ | (apply wr; focus exact xx) | (apply wi; (focus exact xx); (focus exact xx); all_goals intro _; all_goals try first | contradiction | (exfalso; omega) | exact absurd trivial ‹_›) | refine wh_reg ?_ | refine wh_ife ?_ | (apply re; focus exact xx) | (apply rf; (focus exact xx); (focus exact xx); all_goals intro _; all_goals try first | contradiction | (exfalso; omega) | exact absurd trivial ‹_›) | (apply ra; (focus exact xx); (focus exact xx); intro _) | (apply r1; (focus exact xx); (focus exact xx); intro _) | (apply rl; (focus exact xx); (focus exact xx); intro _) | (apply rb; (focus exact xx); (focus exact xx); intro _) | (apply rsi; (focus exact xx); (focus exact xx); all_goals try infer_instance) | (apply rsz; (focus exact xx); (focus exact xx); all_goals try infer_instance) | (apply rt; (focus exact xx); (focus exact xx)) | (apply rso; (focus exact xx); (focus exact xx); all_goals try infer_instance) | (apply rmm; (focus exact xx); intro _) | (apply rsb; (focus exact xx); (focus exact xx)) | (apply ru; (focus exact xx); (focus exact xx)) | (apply rm; (focus exact xx); (focus exact xx); intro _) | (apply rk; (focus exact xx); (focus exact xx); intro _) | (apply rcf; (focus exact xx); (focus (apply ACF.mk; (focus exact xx); (focus exact inferInstance); (focus exact xx); (focus exact inferInstance); (focus exact xx); (focus exact rfl)))) | (apply rco; (focus exact xx); (focus (apply ACO.mk; (focus exact xx); (focus exact xx); (focus exact inferInstance); (focus exact xx); (focus exact xx))); intro _) | (apply rc; (focus exact xx); (focus exact xx)) | (apply rk'; (focus exact xx); (focus exact xx))
  refine wh_count (s.length + 1) (fun i A L => A = [(1, .str s), (5, .str t), (6, .int .i64 (t.length : Nat)), (7, .int .i64 (i : Nat))] ∧ L = []) ⟨rfl, rfl⟩ ?_
  rintro i A L hi ⟨rfl, rfl⟩
  repeat' first | (apply dr_fin; (focus exact xx)) | (apply dr_v; focus (apply DV.mk; (focus exact RF.mk rfl); (focus exact RF.mk rfl); (focus exact RF.mk rfl); (focus exact RF.mk rfl); (focus exact xx); focus (first | exact InD.no | (apply InD.so; (focus exact xx))))) | (apply dr_r; focus (apply DL.mk; (focus exact RF.mk rfl); (focus exact xx); (focus exact xx); focus (first | exact InD.no | (apply InD.so; (focus exact xx))))) | (apply dr_l; (focus exact RF.mk rfl); (focus exact RF.mk rfl); (focus exact RF.mk rfl); (focus exact RF.mk rfl); (focus exact RF.mk rfl)) | (apply dr_e; (focus exact RF.mk rfl); (focus exact RF.mk rfl); (focus exact RF.mk rfl); (focus exact RF.mk rfl)) | (apply rd_e; (focus exact xx); focus (repeat first | exact PO.nil | apply PO.zero | (apply PO.ld; (focus exact xx)))) | (apply rd_l; (focus exact xx)) | refine wh_seq ?_ | refine wh_skip ?_ | refine wh_block ?_ | refine wh_end ?_ | refine wh_exit ?_ | refine wh_ret ?_ | refine bk_norm ?_ | refine bk_exit ?_ | refine bk_ret ?_ | refine fr_exit ?_ | refine fr_ret ?_ | refine lp_exit ?_ | refine lp_ret ?_ | refine jn_exit ?_ | refine jn_ret ?_ | refine bk_other rfl ?_ | (apply wr; focus exact xx) | refine wh_reg ?_ | refine wh_ife ?_ | (apply re; focus exact xx) | (apply ra; (focus exact xx); (focus exact xx); intro _) | (apply r1; (focus exact xx); (focus exact xx); intro _) | (apply rl; (focus exact xx); (focus exact xx); intro _) | (apply rb; (focus exact xx); (focus exact xx); intro _) | (apply rsi; (focus exact xx); (focus exact xx); all_goals try infer_instance) | (apply rsz; (focus exact xx); (focus exact xx); all_goals try infer_instance) | (apply rt; (focus exact xx); (focus exact xx)) | (apply rso; (focus exact xx); (focus exact xx); all_goals try infer_instance) | (apply rmm; (focus exact xx); intro _) | (apply rsb; (focus exact xx); (focus exact xx)) | (apply ru; (focus exact xx); (focus exact xx)) | (apply rm; (focus exact xx); (focus exact xx); intro _) | (apply rk; (focus exact xx); (focus exact xx); intro _) | (apply rcf; (focus exact xx); (focus (apply ACF.mk; (focus exact xx); (focus exact inferInstance); (focus exact xx); (focus exact inferInstance); (focus exact xx); (focus exact rfl)))) | (apply rco; (focus exact xx); (focus (apply ACO.mk; (focus exact xx); (focus exact xx); (focus exact inferInstance); (focus exact xx); (focus exact xx))); intro _) | (apply rc; (focus exact xx); (focus exact xx)) | (apply rk'; (focus exact xx); (focus exact xx))
  ((first | apply wi | apply rf); (focus exact xx); (focus exact xx); all_goals intro _)
  · rename_i hle
    obtain ⟨k, hk, hkl⟩ := span_leq s i (by omega)
    have c5 : PCon T0 n.num_Span [.str s, .int .i64 (i : Nat)] false True (.int .i64 (k : Nat)) := ⟨fun _ => by have := (num_Span s i).con hs; rw [hk] at this; exact this⟩
    have hsg : 0 < k → i < s.length → ((nth s i).toNat : Int) = 45 ∨ (48 ≤ ((nth s i).toNat : Int) ∧ ((nth s i).toNat : Int) ≤ 57) := fun h1 h2 => span_sign (by rw [hk]; omega) h2
    repeat' first | (apply dr_fin; (focus exact xx)) | (apply dr_v; focus (apply DV.mk; (focus exact RF.mk rfl); (focus exact RF.mk rfl); (focus exact RF.mk rfl); (focus exact RF.mk rfl); (focus exact xx); focus (first | exact InD.no | (apply InD.so; (focus exact xx))))) | (apply dr_r; focus (apply DL.mk; (focus exact RF.mk rfl); (focus exact xx); (focus exact xx); focus (first | exact InD.no | (apply InD.so; (focus exact xx))))) | (apply dr_l; (focus exact RF.mk rfl); (focus exact RF.mk rfl); (focus exact RF.mk rfl); (focus exact RF.mk rfl); (focus exact RF.mk rfl)) | (apply dr_e; (focus exact RF.mk rfl); (focus exact RF.mk rfl); (focus exact RF.mk rfl); (focus exact RF.mk rfl)) | (apply rd_e; (focus exact xx); focus (repeat first | exact PO.nil | apply PO.zero | (apply PO.ld; (focus exact xx)))) | (apply rd_l; (focus exact xx)) | refine wh_seq ?_ | refine wh_skip ?_ | refine wh_block ?_ | refine wh_end ?_ | refine wh_exit ?_ | refine wh_ret ?_ | refine bk_norm ?_ | refine bk_exit ?_ | refine bk_ret ?_ | refine fr_exit ?_ | refine fr_ret ?_ | refine lp_exit ?_ | refine lp_ret ?_ | refine jn_exit ?_ | refine jn_ret ?_ | refine bk_other rfl ?_ | (apply wr; focus exact xx) | (apply wi; (focus exact xx); (focus exact xx); all_goals intro _; all_goals try first | contradiction | (exfalso; omega) | exact absurd trivial ‹_›) | refine wh_reg ?_ | refine wh_ife ?_ | (apply re; focus exact xx) | (apply rf; (focus exact xx); (focus exact xx); all_goals intro _; all_goals try first | contradiction | (exfalso; omega) | exact absurd trivial ‹_›) | (apply ra; (focus exact xx); (focus exact xx); intro _) | (apply r1; (focus exact xx); (focus exact xx); intro _) | (apply rl; (focus exact xx); (focus exact xx); intro _) | (apply rb; (focus exact xx); (focus exact xx); intro _) | (apply rsi; (focus exact xx); (focus exact xx); all_goals try infer_instance) | (apply rsz; (focus exact xx); (focus exact xx); all_goals try infer_instance) | (apply rt; (focus exact xx); (focus exact xx)) | (apply rso; (focus exact xx); (focus exact xx); all_goals try infer_instance) | (apply rmm; (focus exact xx); intro _) | (apply rsb; (focus exact xx); (focus exact xx)) | (apply ru; (focus exact xx); (focus exact xx)) | (apply rm; (focus exact xx); (focus exact xx); intro _) | (apply rk; (focus exact xx); (focus exact xx); intro _) | (apply rcf; (focus exact xx); (focus (apply ACF.mk; (focus exact xx); (focus exact inferInstance); (focus exact xx); (focus exact inferInstance); (focus exact xx); (focus exact rfl)))) | (apply rco; (focus exact xx); (focus (apply ACO.mk; (focus exact xx); (focus exact xx); (focus exact inferInstance); (focus exact xx); (focus exact xx))); intro _) | (apply rc; (focus exact xx); (focus exact xx)) | (apply rk'; (focus exact xx); (focus exact xx))
    exact fr_next (by omega) sbc ⟨rfl, rfl⟩
  · repeat' first | (apply dr_fin; (focus exact xx)) | (apply dr_v; focus (apply DV.mk; (focus exact RF.mk rfl); (focus exact RF.mk rfl); (focus exact RF.mk rfl); (focus exact RF.mk rfl); (focus exact xx); focus (first | exact InD.no | (apply InD.so; (focus exact xx))))) | (apply dr_r; focus (apply DL.mk; (focus exact RF.mk rfl); (focus exact xx); (focus exact xx); focus (first | exact InD.no | (apply InD.so; (focus exact xx))))) | (apply dr_l; (focus exact RF.mk rfl); (focus exact RF.mk rfl); (focus exact RF.mk rfl); (focus exact RF.mk rfl); (focus exact RF.mk rfl)) | (apply dr_e; (focus exact RF.mk rfl); (focus exact RF.mk rfl); (focus exact RF.mk rfl); (focus exact RF.mk rfl)) | (apply rd_e; (focus exact xx); focus (repeat first | exact PO.nil | apply PO.zero | (apply PO.ld; (focus exact xx)))) | (apply rd_l; (focus exact xx)) | refine wh_seq ?_ | refine wh_skip ?_ | refine wh_block ?_ | refine wh_end ?_ | refine wh_exit ?_ | refine wh_ret ?_ | refine bk_norm ?_ | refine bk_exit ?_ | refine bk_ret ?_ | refine fr_exit ?_ | refine fr_ret ?_ | refine lp_exit ?_ | refine lp_ret ?_ | refine jn_exit ?_ | refine jn_ret ?_ | refine bk_other rfl ?_ | (apply wr; focus exact xx) | (apply wi; (focus exact xx); (focus exact xx); all_goals intro _; all_goals try first | contradiction | (exfalso; omega) | exact absurd trivial ‹_›) | refine wh_reg ?_ | refine wh_ife ?_ | (apply re; focus exact xx) | (apply rf; (focus exact xx); (focus exact xx); all_goals intro _; all_goals try first | contradiction | (exfalso; omega) | exact absurd trivial ‹_›) | (apply ra; (focus exact xx); (focus exact xx); intro _) | (apply r1; (focus exact xx); (focus exact xx); intro _) | (apply rl; (focus exact xx); (focus exact xx); intro _) | (apply rb; (focus exact xx); (focus exact xx); intro _) | (apply rsi; (focus exact xx); (focus exact xx); all_goals try infer_instance) | (apply rsz; (focus exact xx); (focus exact xx); all_goals try infer_instance) | (apply rt; (focus exact xx); (focus exact xx)) | (apply rso; (focus exact xx); (focus exact xx); all_goals try infer_instance) | (apply rmm; (focus exact xx); intro _) | (apply rsb; (focus exact xx); (focus exact xx)) | (apply ru; (focus exact xx); (focus exact xx)) | (apply rm; (focus exact xx); (focus exact xx); intro _) | (apply rk; (focus exact xx); (focus exact xx); intro _) | (apply rcf; (focus exact xx); (focus (apply ACF.mk; (focus exact xx); (focus exact inferInstance); (focus exact xx); (focus exact inferInstance); (focus exact xx); (focus exact rfl)))) | (apply rco; (focus exact xx); (focus (apply ACO.mk; (focus exact xx); (focus exact xx); (focus exact inferInstance); (focus exact xx); (focus exact xx))); intro _) | (apply rc; (focus exact xx); (focus exact xx)) | (apply rk'; (focus exact xx); (focus exact xx))
    refine fz ?_
    simp⟩
end Go.AM

set_option linter.unusedVariables false
set_option linter.unusedSimpArgs false
namespace Go.AM
open Go.RowKit Go.Deep Go.Proofs
theorem okN_of {q : Int} (h : (Lit.int .i64 q).wf = true) : okN q := by
  simp only [Lit.wf, Bool.and_eq_true, decide_eq_true_eq] at h
  exact h
theorem numTells_ok (q : Int) (s : List UInt8) (p : Int) (hb : (fun _ : Int => 1) q + (fun s : List UInt8 => s.length + 1) s + (fun _ : Int => 1) p ≤ 1048576) (h0 : (fun a => (Lit.int .i64 a).wf = true) q) (h1 : (fun _ => True) s) (h2 : (fun a => (Lit.int .i64 a).wf = true) p) : okN q ∧ okS s := by
  simp only at hb
  exact ⟨okN_of h0, by show s.length ≤ 1048576; omega⟩
theorem numBack_ok (q : Int) (s : List UInt8) (hb : (fun _ : Int => 1) q + (fun s : List UInt8 => s.length + 1) s ≤ 1048576) (h0 : (fun a => (Lit.int .i64 a).wf = true) q) (h1 : (fun _ => True) s) : okN q ∧ okS s := by
  simp only at hb
  exact ⟨okN_of h0, by show s.length ≤ 1048576; omega⟩
theorem numSpans_ok (q : Int) (s : List UInt8) (hb : (fun _ : Int => 1) q + (fun s : List UInt8 => s.length + 1) s ≤ 1048576) (h0 : (fun a => (Lit.int .i64 a).wf = true) q) (h1 : (fun _ => True) s) : okN q ∧ okS s := numBack_ok q s hb h0 h1
end Go.AM

