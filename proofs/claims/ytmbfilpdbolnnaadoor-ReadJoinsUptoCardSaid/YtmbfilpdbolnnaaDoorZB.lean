/- Part ZB of the proof. -/
import Derived.Test.YtmbfilpdbolnnaaDoorZA
import Derived.Test.YtmbfilpdbolnnaaDoorA3
set_option linter.unusedVariables false
set_option linter.unusedSimpArgs false
namespace Go.AM
attribute [-simp] List.length_flatten List.map_flatten List.map_take List.map_map List.flatten_append
/-- A text that is read. -/
structure Cur where
  s : List UInt8
  at' : Nat
  ops : Nat
  e : Int
  deriving Inhabited
@[reducible] def eCur (c : Cur) : V := .agg [.str c.s, .int .i64 (c.at' : Nat), .int .i64 (c.ops : Nat), .int .i64 c.e]
@[reducible] def cb (id : Nat) (c : Cur) : HE := .ob id (.row 4 true [eCur c])
def seesC (c : Cur) (b : UInt8) : Bool := decide (c.e = 0) && (decide (c.at' < c.s.length) && decide ((nth c.s c.at') = b))
theorem sees_rc {id : Nat} {L : List HE} (c : Cur) (hm : Mem (cb id c) L) (b : UInt8) : RC T0 L n.read_cursor__sees [.ptr id 4 0 0, .int .u8 (b.toNat : Nat)] (.bool (seesC c b)) := by
  refine rw' tabOk ?_
  repeat' first | (apply dr_fin; (focus exact xx)) | (apply dr_gt; (focus exact xx)) | (apply dr_gf; (focus exact xx); (focus first | exact .inl rfl | exact .inr rfl); focus (first | exact InD.no | (apply InD.so; (focus exact xx)))) | (apply dr_v; focus (apply DV.mk; (focus exact RF.mk rfl); (focus exact RF.mk rfl); (focus exact RF.mk rfl); (focus exact RF.mk rfl); (focus exact xx); focus (first | exact InD.no | (apply InD.so; (focus exact xx))))) | (apply dr_ve; focus (apply DVE.mk; (focus exact RF.mk rfl); (focus exact RF.mk rfl); (focus exact RF.mk rfl); (focus exact xx); focus (first | exact InD.no | (apply InD.so; (focus exact xx))))) | (apply dr_r; focus (apply DL.mk; (focus exact RF.mk rfl); (focus exact xx); (focus exact xx); focus (first | exact InD.no | (apply InD.so; (focus exact xx))))) | (apply dr_l; (focus exact RF.mk rfl); (focus exact RF.mk rfl); (focus exact RF.mk rfl); (focus exact RF.mk rfl); (focus exact RF.mk rfl)) | (apply dr_e; (focus exact RF.mk rfl); (focus exact RF.mk rfl); (focus exact RF.mk rfl); (focus exact RF.mk rfl)) | (apply rd_e; (focus exact xx); focus (repeat first | exact PO.nil | apply PO.zero | (apply PO.ld; (focus exact xx)))) | (apply rd_l; (focus exact xx)) | refine wh_seq ?_ | refine wh_skip ?_ | refine wh_block ?_ | refine wh_end ?_ | refine wh_exit ?_ | refine wh_ret ?_ | refine bk_norm ?_ | refine bk_exit ?_ | refine bk_ret ?_ | refine fr_exit ?_ | refine fr_ret ?_ | refine lp_exit ?_ | refine lp_ret ?_ | refine jn_exit ?_ | refine jn_ret ?_ | refine bk_other rfl ?_ | (apply wr; focus exact xx) | (apply wi; (focus exact xx); (focus exact xx); all_goals intro _; all_goals try first | contradiction | (exfalso; omega) | exact absurd trivial ‹_›) | refine wh_reg ?_ | refine wh_ife ?_ | (apply re; focus exact xx) | (apply rf; (focus exact xx); (focus exact xx); all_goals intro _; all_goals try first | contradiction | (exfalso; omega) | exact absurd trivial ‹_›) | (apply ra; (focus exact xx); (focus exact xx); intro _) | (apply r1; (focus exact xx); (focus exact xx); intro _) | (apply rl; (focus exact xx); (focus exact xx); intro _) | (apply rb; (focus exact xx); (focus exact xx); intro _) | (apply rsi; (focus exact xx); (focus exact xx); all_goals try infer_instance) | (apply rsz; (focus exact xx); (focus exact xx); all_goals try infer_instance) | (apply rt; (focus exact xx); (focus exact xx)) | (apply rso; (focus exact xx); (focus exact xx); all_goals try infer_instance) | (apply rmm; (focus exact xx); intro _) | (apply rsb; (focus exact xx); (focus exact xx)) | (apply ru; (focus exact xx); (focus exact xx)) | (apply rm; (focus exact xx); (focus exact xx); intro _) | (apply rk; (focus exact xx); (focus exact xx); intro _) | (apply rcf; (focus exact xx); (focus (apply ACF.mk; (focus exact xx); (focus exact inferInstance); (focus exact xx); (focus exact inferInstance); (focus exact xx); (focus exact rfl)))) | (apply rco; (focus exact xx); (focus (apply ACO.mk; (focus exact xx); (focus exact xx); (focus exact inferInstance); (focus exact xx); (focus exact xx))); intro _) | (apply rc; (focus exact xx); (focus exact xx)) | (apply rk'; (focus exact xx); (focus exact xx))
  refine fw (vbool ?_)
  simp only [seesC, Bool.and_eq_true, decide_eq_true_eq]
  have : ((nth c.s c.at').toNat : Int) = (b.toNat : Nat) ↔ nth c.s c.at' = b := ⟨fun h => UInt8.toNat_inj.1 (by omega), fun h => by rw [h]⟩
  rw [← this]
  constructor
  · rintro ⟨⟨h1, h2⟩, h3⟩; exact ⟨h1, by omega, h3⟩
  · rintro ⟨h1, h2, h3⟩; exact ⟨⟨h1, by omega⟩, h3⟩
def failC (c : Cur) (e : Int) : Cur := if c.e = 0 then { c with e := e } else c
instance (id : Nat) (x : V) : Fam n.read_cursor__fail [.ptr id 4 0 0, x] Cur (cb id) := ⟨trivial⟩
instance fail_cf (id : Nat) (c : Cur) (e : Int) : CEF T0 (cb id) n.read_cursor__fail [.ptr id 4 0 0, .int .i64 e] c True (.tup []) (failC c e) := ⟨fun _ L C hat => by
  have hm := hat.fact
  refine rx tabOk ?_
  repeat' first | (apply dr_fin; (focus exact xx)) | (apply dr_gt; (focus exact xx)) | (apply dr_gf; (focus exact xx); (focus first | exact .inl rfl | exact .inr rfl); focus (first | exact InD.no | (apply InD.so; (focus exact xx)))) | (apply dr_v; focus (apply DV.mk; (focus exact RF.mk rfl); (focus exact RF.mk rfl); (focus exact RF.mk rfl); (focus exact RF.mk rfl); (focus exact xx); focus (first | exact InD.no | (apply InD.so; (focus exact xx))))) | (apply dr_ve; focus (apply DVE.mk; (focus exact RF.mk rfl); (focus exact RF.mk rfl); (focus exact RF.mk rfl); (focus exact xx); focus (first | exact InD.no | (apply InD.so; (focus exact xx))))) | (apply dr_r; focus (apply DL.mk; (focus exact RF.mk rfl); (focus exact xx); (focus exact xx); focus (first | exact InD.no | (apply InD.so; (focus exact xx))))) | (apply dr_l; (focus exact RF.mk rfl); (focus exact RF.mk rfl); (focus exact RF.mk rfl); (focus exact RF.mk rfl); (focus exact RF.mk rfl)) | (apply dr_e; (focus exact RF.mk rfl); (focus exact RF.mk rfl); (focus exact RF.mk rfl); (focus exact RF.mk rfl)) | (apply rd_e; (focus exact xx); focus (repeat first | exact PO.nil | apply PO.zero | (apply PO.ld; (focus exact xx)))) | (apply rd_l; (focus exact xx)) | refine wh_seq ?_ | refine wh_skip ?_ | refine wh_block ?_ | refine wh_end ?_ | refine wh_exit ?_ | refine wh_ret ?_ | refine bk_norm ?_ | refine bk_exit ?_ | refine bk_ret ?_ | refine fr_exit ?_ | refine fr_ret ?_ | refine lp_exit ?_ | refine lp_ret ?_ | refine jn_exit ?_ | refine jn_ret ?_ | refine bk_other rfl ?_ | (apply wr; focus exact xx) | (apply wi; (focus exact xx); (focus exact xx); all_goals intro _; all_goals try first | contradiction | (exfalso; omega) | exact absurd trivial ‹_›) | refine wh_reg ?_ | refine wh_ife ?_ | (apply re; focus exact xx) | (apply rf; (focus exact xx); (focus exact xx); all_goals intro _; all_goals try first | contradiction | (exfalso; omega) | exact absurd trivial ‹_›) | (apply ra; (focus exact xx); (focus exact xx); intro _) | (apply r1; (focus exact xx); (focus exact xx); intro _) | (apply rl; (focus exact xx); (focus exact xx); intro _) | (apply rb; (focus exact xx); (focus exact xx); intro _) | (apply rsi; (focus exact xx); (focus exact xx); all_goals try infer_instance) | (apply rsz; (focus exact xx); (focus exact xx); all_goals try infer_instance) | (apply rt; (focus exact xx); (focus exact xx)) | (apply rso; (focus exact xx); (focus exact xx); all_goals try infer_instance) | (apply rmm; (focus exact xx); intro _) | (apply rsb; (focus exact xx); (focus exact xx)) | (apply ru; (focus exact xx); (focus exact xx)) | (apply rm; (focus exact xx); (focus exact xx); intro _) | (apply rk; (focus exact xx); (focus exact xx); intro _) | (apply rcf; (focus exact xx); (focus (apply ACF.mk; (focus exact xx); (focus exact inferInstance); (focus exact xx); (focus exact inferInstance); (focus exact xx); (focus exact rfl)))) | (apply rco; (focus exact xx); (focus (apply ACO.mk; (focus exact xx); (focus exact xx); (focus exact inferInstance); (focus exact xx); (focus exact xx))); intro _) | (apply rc; (focus exact xx); (focus exact xx)) | (apply rk'; (focus exact xx); (focus exact xx))
  · refine fe rfl ?_
    rename_i h
    rw [failC, if_pos h]
  · refine fe rfl ?_
    rename_i h
    rw [failC, if_neg h, hat.self]⟩
def takeC (c : Cur) (b : UInt8) : Cur := if seesC c b = true then { c with at' := c.at' + 1 } else c
instance (id : Nat) (x : V) : Fam n.read_cursor__take [.ptr id 4 0 0, x] Cur (cb id) := ⟨trivial⟩
instance take_cf (id : Nat) (c : Cur) (b : UInt8) : CEF T0 (cb id) n.read_cursor__take [.ptr id 4 0 0, .int .u8 (b.toNat : Nat)] c (c.at' ≤ 1048576) (.bool (seesC c b)) (takeC c b) := ⟨fun hb L C hat => by
  have hm := hat.fact
  have h1 := sees_rc c hm b
  refine rx tabOk ?_
  repeat' first | (apply dr_fin; (focus exact xx)) | (apply dr_gt; (focus exact xx)) | (apply dr_gf; (focus exact xx); (focus first | exact .inl rfl | exact .inr rfl); focus (first | exact InD.no | (apply InD.so; (focus exact xx)))) | (apply dr_v; focus (apply DV.mk; (focus exact RF.mk rfl); (focus exact RF.mk rfl); (focus exact RF.mk rfl); (focus exact RF.mk rfl); (focus exact xx); focus (first | exact InD.no | (apply InD.so; (focus exact xx))))) | (apply dr_ve; focus (apply DVE.mk; (focus exact RF.mk rfl); (focus exact RF.mk rfl); (focus exact RF.mk rfl); (focus exact xx); focus (first | exact InD.no | (apply InD.so; (focus exact xx))))) | (apply dr_r; focus (apply DL.mk; (focus exact RF.mk rfl); (focus exact xx); (focus exact xx); focus (first | exact InD.no | (apply InD.so; (focus exact xx))))) | (apply dr_l; (focus exact RF.mk rfl); (focus exact RF.mk rfl); (focus exact RF.mk rfl); (focus exact RF.mk rfl); (focus exact RF.mk rfl)) | (apply dr_e; (focus exact RF.mk rfl); (focus exact RF.mk rfl); (focus exact RF.mk rfl); (focus exact RF.mk rfl)) | (apply rd_e; (focus exact xx); focus (repeat first | exact PO.nil | apply PO.zero | (apply PO.ld; (focus exact xx)))) | (apply rd_l; (focus exact xx)) | refine wh_seq ?_ | refine wh_skip ?_ | refine wh_block ?_ | refine wh_end ?_ | refine wh_exit ?_ | refine wh_ret ?_ | refine bk_norm ?_ | refine bk_exit ?_ | refine bk_ret ?_ | refine fr_exit ?_ | refine fr_ret ?_ | refine lp_exit ?_ | refine lp_ret ?_ | refine jn_exit ?_ | refine jn_ret ?_ | refine bk_other rfl ?_ | (apply wr; focus exact xx) | (apply wi; (focus exact xx); (focus exact xx); all_goals intro _; all_goals try first | contradiction | (exfalso; omega) | exact absurd trivial ‹_›) | refine wh_reg ?_ | refine wh_ife ?_ | (apply re; focus exact xx) | (apply rf; (focus exact xx); (focus exact xx); all_goals intro _; all_goals try first | contradiction | (exfalso; omega) | exact absurd trivial ‹_›) | (apply ra; (focus exact xx); (focus exact xx); intro _) | (apply r1; (focus exact xx); (focus exact xx); intro _) | (apply rl; (focus exact xx); (focus exact xx); intro _) | (apply rb; (focus exact xx); (focus exact xx); intro _) | (apply rsi; (focus exact xx); (focus exact xx); all_goals try infer_instance) | (apply rsz; (focus exact xx); (focus exact xx); all_goals try infer_instance) | (apply rt; (focus exact xx); (focus exact xx)) | (apply rso; (focus exact xx); (focus exact xx); all_goals try infer_instance) | (apply rmm; (focus exact xx); intro _) | (apply rsb; (focus exact xx); (focus exact xx)) | (apply ru; (focus exact xx); (focus exact xx)) | (apply rm; (focus exact xx); (focus exact xx); intro _) | (apply rk; (focus exact xx); (focus exact xx); intro _) | (apply rcf; (focus exact xx); (focus (apply ACF.mk; (focus exact xx); (focus exact inferInstance); (focus exact xx); (focus exact inferInstance); (focus exact xx); (focus exact rfl)))) | (apply rco; (focus exact xx); (focus (apply ACO.mk; (focus exact xx); (focus exact xx); (focus exact inferInstance); (focus exact xx); (focus exact xx))); intro _) | (apply rc; (focus exact xx); (focus exact xx)) | (apply rk'; (focus exact xx); (focus exact xx))
  · refine fv ?_ ?_
    · rename_i h; simpa using h
    · rename_i h; rw [takeC, if_neg (by simpa using h), hat.self]
  · rename_i h
    have h : seesC c b = true := by simpa using h
    refine fv (by rw [h]) ?_
    rw [takeC, if_pos h]⟩
def mustC (c : Cur) (b : UInt8) : Cur := if seesC c b = true then takeC c b else failC (takeC c b) 2
instance (id : Nat) (x : V) : Fam n.read_cursor__must [.ptr id 4 0 0, x] Cur (cb id) := ⟨trivial⟩
instance must_cf (id : Nat) (c : Cur) (b : UInt8) : CEF T0 (cb id) n.read_cursor__must [.ptr id 4 0 0, .int .u8 (b.toNat : Nat)] c (c.at' ≤ 1048576) (.tup []) (mustC c b) := ⟨fun hb L C hat => by
  have hm := hat.fact
  refine rx tabOk ?_
  repeat' first | (apply dr_fin; (focus exact xx)) | (apply dr_gt; (focus exact xx)) | (apply dr_gf; (focus exact xx); (focus first | exact .inl rfl | exact .inr rfl); focus (first | exact InD.no | (apply InD.so; (focus exact xx)))) | (apply dr_v; focus (apply DV.mk; (focus exact RF.mk rfl); (focus exact RF.mk rfl); (focus exact RF.mk rfl); (focus exact RF.mk rfl); (focus exact xx); focus (first | exact InD.no | (apply InD.so; (focus exact xx))))) | (apply dr_ve; focus (apply DVE.mk; (focus exact RF.mk rfl); (focus exact RF.mk rfl); (focus exact RF.mk rfl); (focus exact xx); focus (first | exact InD.no | (apply InD.so; (focus exact xx))))) | (apply dr_r; focus (apply DL.mk; (focus exact RF.mk rfl); (focus exact xx); (focus exact xx); focus (first | exact InD.no | (apply InD.so; (focus exact xx))))) | (apply dr_l; (focus exact RF.mk rfl); (focus exact RF.mk rfl); (focus exact RF.mk rfl); (focus exact RF.mk rfl); (focus exact RF.mk rfl)) | (apply dr_e; (focus exact RF.mk rfl); (focus exact RF.mk rfl); (focus exact RF.mk rfl); (focus exact RF.mk rfl)) | (apply rd_e; (focus exact xx); focus (repeat first | exact PO.nil | apply PO.zero | (apply PO.ld; (focus exact xx)))) | (apply rd_l; (focus exact xx)) | refine wh_seq ?_ | refine wh_skip ?_ | refine wh_block ?_ | refine wh_end ?_ | refine wh_exit ?_ | refine wh_ret ?_ | refine bk_norm ?_ | refine bk_exit ?_ | refine bk_ret ?_ | refine fr_exit ?_ | refine fr_ret ?_ | refine lp_exit ?_ | refine lp_ret ?_ | refine jn_exit ?_ | refine jn_ret ?_ | refine bk_other rfl ?_ | (apply wr; focus exact xx) | (apply wi; (focus exact xx); (focus exact xx); all_goals intro _; all_goals try first | contradiction | (exfalso; omega) | exact absurd trivial ‹_›) | refine wh_reg ?_ | refine wh_ife ?_ | (apply re; focus exact xx) | (apply rf; (focus exact xx); (focus exact xx); all_goals intro _; all_goals try first | contradiction | (exfalso; omega) | exact absurd trivial ‹_›) | (apply ra; (focus exact xx); (focus exact xx); intro _) | (apply r1; (focus exact xx); (focus exact xx); intro _) | (apply rl; (focus exact xx); (focus exact xx); intro _) | (apply rb; (focus exact xx); (focus exact xx); intro _) | (apply rsi; (focus exact xx); (focus exact xx); all_goals try infer_instance) | (apply rsz; (focus exact xx); (focus exact xx); all_goals try infer_instance) | (apply rt; (focus exact xx); (focus exact xx)) | (apply rso; (focus exact xx); (focus exact xx); all_goals try infer_instance) | (apply rmm; (focus exact xx); intro _) | (apply rsb; (focus exact xx); (focus exact xx)) | (apply ru; (focus exact xx); (focus exact xx)) | (apply rm; (focus exact xx); (focus exact xx); intro _) | (apply rk; (focus exact xx); (focus exact xx); intro _) | (apply rcf; (focus exact xx); (focus (apply ACF.mk; (focus exact xx); (focus exact inferInstance); (focus exact xx); (focus exact inferInstance); (focus exact xx); (focus exact rfl)))) | (apply rco; (focus exact xx); (focus (apply ACO.mk; (focus exact xx); (focus exact xx); (focus exact inferInstance); (focus exact xx); (focus exact xx))); intro _) | (apply rc; (focus exact xx); (focus exact xx)) | (apply rk'; (focus exact xx); (focus exact xx))
  · refine fe rfl ?_
    rename_i h
    rw [mustC, if_neg h]
  · refine fe rfl ?_
    rename_i h
    rw [mustC, if_pos (Decidable.not_not.1 h)]⟩
def nameN (c : Cur) : Nat := if c.e = 0 then min 8 ((c.s.drop c.at').takeWhile low).length else 0
def nameC (c : Cur) : Cur := if nameN c = 0 then failC c 2 else { c with at' := c.at' + nameN c }
instance (id : Nat) : Fam n.read_cursor__name [.ptr id 4 0 0] Cur (cb id) := ⟨trivial⟩
theorem tw_ge {α : Type} {p : α → Bool} : ∀ {l : List α} {m : Nat}, (l.take m).all p = true → m ≤ l.length → m ≤ (l.takeWhile p).length
  | _, 0, _, _ => Nat.zero_le _
  | [], m + 1, _, h => by simp at h
  | a :: r, m + 1, h1, h2 => by
    simp only [List.take_succ_cons, List.all_cons, Bool.and_eq_true] at h1
    rw [List.takeWhile_cons_of_pos h1.1, List.length_cons]
    have := tw_ge (l := r) (m := m) h1.2 (by simpa using h2)
    omega
theorem name_end {c : Cur} {j : Nat} (hj8 : j ≤ 8) (hjl : j ≤ (c.s.drop c.at').length) (hj0 : j = 0 ∨ c.e = 0) (hall : ((c.s.drop c.at').take j).all low = true)
    (h : ¬ ((((c.e = 0 ∧ ((c.at' + j : Nat) : Int) - c.at' < 8) ∧ ((c.at' + j : Nat) : Int) < (c.s.length : Int)) ∧ 97 ≤ ((nth c.s (c.at' + j)).toNat : Int)) ∧ ((nth c.s (c.at' + j)).toNat : Int) ≤ 122)) : nameN c = j := by
  have hdl : (c.s.drop c.at').length = c.s.length - c.at' := List.length_drop
  unfold nameN
  by_cases he : c.e = 0
  · rw [if_pos he]
    by_cases h8 : j = 8
    · have := tw_ge hall hjl; omega
    · have ht := tw_stop hall hjl (by
        by_cases hl : j = (c.s.drop c.at').length
        · exact .inl hl
        · right
          rw [nth_drop]
          cases hlow : low (nth c.s (c.at' + j)) with
          | false => rfl
          | true =>
            simp only [low, Bool.and_eq_true, decide_eq_true_eq] at hlow
            exact absurd ⟨⟨⟨⟨he, by omega⟩, by omega⟩, by omega⟩, by omega⟩ h)
      rw [ht]; omega
  · rw [if_neg he]
    rcases hj0 with h | h
    · exact h.symm
    · exact absurd h he
set_option maxHeartbeats 1000000 in
instance name_cf (id : Nat) (c : Cur) : CEF T0 (cb id) n.read_cursor__name [.ptr id 4 0 0] c (c.at' ≤ c.s.length ∧ c.s.length ≤ 1048576) (.str ((c.s.drop c.at').take (nameN c))) (nameC c) := ⟨fun ⟨hb1, hb2⟩ L C hat => by
  have hm := hat.fact
  have hdl : (c.s.drop c.at').length = c.s.length - c.at' := List.length_drop
  refine rx tabOk ?_
  repeat' first | (apply dr_fin; (focus exact xx)) | (apply dr_gt; (focus exact xx)) | (apply dr_gf; (focus exact xx); (focus first | exact .inl rfl | exact .inr rfl); focus (first | exact InD.no | (apply InD.so; (focus exact xx)))) | (apply dr_v; focus (apply DV.mk; (focus exact RF.mk rfl); (focus exact RF.mk rfl); (focus exact RF.mk rfl); (focus exact RF.mk rfl); (focus exact xx); focus (first | exact InD.no | (apply InD.so; (focus exact xx))))) | (apply dr_ve; focus (apply DVE.mk; (focus exact RF.mk rfl); (focus exact RF.mk rfl); (focus exact RF.mk rfl); (focus exact xx); focus (first | exact InD.no | (apply InD.so; (focus exact xx))))) | (apply dr_r; focus (apply DL.mk; (focus exact RF.mk rfl); (focus exact xx); (focus exact xx); focus (first | exact InD.no | (apply InD.so; (focus exact xx))))) | (apply dr_l; (focus exact RF.mk rfl); (focus exact RF.mk rfl); (focus exact RF.mk rfl); (focus exact RF.mk rfl); (focus exact RF.mk rfl)) | (apply dr_e; (focus exact RF.mk rfl); (focus exact RF.mk rfl); (focus exact RF.mk rfl); (focus exact RF.mk rfl)) | (apply rd_e; (focus exact xx); focus (repeat first | exact PO.nil | apply PO.zero | (apply PO.ld; (focus exact xx)))) | (apply rd_l; (focus exact xx)) | refine wh_seq ?_ | refine wh_skip ?_ | refine wh_block ?_ | refine wh_end ?_ | refine wh_exit ?_ | refine wh_ret ?_ | refine bk_norm ?_ | refine bk_exit ?_ | refine bk_ret ?_ | refine fr_exit ?_ | refine fr_ret ?_ | refine lp_exit ?_ | refine lp_ret ?_ | refine jn_exit ?_ | refine jn_ret ?_ | refine bk_other rfl ?_ | (apply wr; focus exact xx) | (apply wi; (focus exact xx); (focus exact xx); all_goals intro _; all_goals try first | contradiction | (exfalso; omega) | exact absurd trivial ‹_›) | refine wh_reg ?_ | refine wh_ife ?_ | (apply re; focus exact xx) | (apply rf; (focus exact xx); (focus exact xx); all_goals intro _; all_goals try first | contradiction | (exfalso; omega) | exact absurd trivial ‹_›) | (apply ra; (focus exact xx); (focus exact xx); intro _) | (apply r1; (focus exact xx); (focus exact xx); intro _) | (apply rl; (focus exact xx); (focus exact xx); intro _) | (apply rb; (focus exact xx); (focus exact xx); intro _) | (apply rsi; (focus exact xx); (focus exact xx); all_goals try infer_instance) | (apply rsz; (focus exact xx); (focus exact xx); all_goals try infer_instance) | (apply rt; (focus exact xx); (focus exact xx)) | (apply rso; (focus exact xx); (focus exact xx); all_goals try infer_instance) | (apply rmm; (focus exact xx); intro _) | (apply rsb; (focus exact xx); (focus exact xx)) | (apply ru; (focus exact xx); (focus exact xx)) | (apply rm; (focus exact xx); (focus exact xx); intro _) | (apply rk; (focus exact xx); (focus exact xx); intro _) | (apply rcf; (focus exact xx); (focus (apply ACF.mk; (focus exact xx); (focus exact inferInstance); (focus exact xx); (focus exact inferInstance); (focus exact xx); (focus exact rfl)))) | (apply rco; (focus exact xx); (focus (apply ACO.mk; (focus exact xx); (focus exact xx); (focus exact inferInstance); (focus exact xx); (focus exact xx))); intro _) | (apply rc; (focus exact xx); (focus exact xx)) | (apply rk'; (focus exact xx); (focus exact xx))
  refine wh_loop (fun m A L => ∃ j : Nat, m = 8 - j ∧ j ≤ 8 ∧ j ≤ (c.s.drop c.at').length ∧ (j = 0 ∨ c.e = 0) ∧ ((c.s.drop c.at').take j).all low = true ∧ A = [(0, .ptr id 4 0 0), (3, .int .i64 (c.at' : Nat))] ∧ L = C (cb id { c with at' := c.at' + j })) _ ⟨0, rfl, by omega, by omega, .inl rfl, by simp, rfl, hat.self.symm⟩ ?_
  rintro m A L' ⟨j, rfl, hj8, hjl, hj0, hall, rfl, rfl⟩
  have hnd : nth (c.s.drop c.at') j = nth c.s (c.at' + j) := nth_drop
  repeat' first | (apply dr_fin; (focus exact xx)) | (apply dr_gt; (focus exact xx)) | (apply dr_gf; (focus exact xx); (focus first | exact .inl rfl | exact .inr rfl); focus (first | exact InD.no | (apply InD.so; (focus exact xx)))) | (apply dr_v; focus (apply DV.mk; (focus exact RF.mk rfl); (focus exact RF.mk rfl); (focus exact RF.mk rfl); (focus exact RF.mk rfl); (focus exact xx); focus (first | exact InD.no | (apply InD.so; (focus exact xx))))) | (apply dr_ve; focus (apply DVE.mk; (focus exact RF.mk rfl); (focus exact RF.mk rfl); (focus exact RF.mk rfl); (focus exact xx); focus (first | exact InD.no | (apply InD.so; (focus exact xx))))) | (apply dr_r; focus (apply DL.mk; (focus exact RF.mk rfl); (focus exact xx); (focus exact xx); focus (first | exact InD.no | (apply InD.so; (focus exact xx))))) | (apply dr_l; (focus exact RF.mk rfl); (focus exact RF.mk rfl); (focus exact RF.mk rfl); (focus exact RF.mk rfl); (focus exact RF.mk rfl)) | (apply dr_e; (focus exact RF.mk rfl); (focus exact RF.mk rfl); (focus exact RF.mk rfl); (focus exact RF.mk rfl)) | (apply rd_e; (focus exact xx); focus (repeat first | exact PO.nil | apply PO.zero | (apply PO.ld; (focus exact xx)))) | (apply rd_l; (focus exact xx)) | refine wh_seq ?_ | refine wh_skip ?_ | refine wh_block ?_ | refine wh_end ?_ | refine wh_exit ?_ | refine wh_ret ?_ | refine bk_norm ?_ | refine bk_exit ?_ | refine bk_ret ?_ | refine fr_exit ?_ | refine fr_ret ?_ | refine lp_exit ?_ | refine lp_ret ?_ | refine jn_exit ?_ | refine jn_ret ?_ | refine bk_other rfl ?_ | (apply wr; focus exact xx) | (apply wi; (focus exact xx); (focus exact xx); all_goals intro _; all_goals try first | contradiction | (exfalso; omega) | exact absurd trivial ‹_›) | refine wh_reg ?_ | refine wh_ife ?_ | (apply re; focus exact xx) | (apply rf; (focus exact xx); (focus exact xx); all_goals intro _; all_goals try first | contradiction | (exfalso; omega) | exact absurd trivial ‹_›) | (apply ra; (focus exact xx); (focus exact xx); intro _) | (apply r1; (focus exact xx); (focus exact xx); intro _) | (apply rl; (focus exact xx); (focus exact xx); intro _) | (apply rb; (focus exact xx); (focus exact xx); intro _) | (apply rsi; (focus exact xx); (focus exact xx); all_goals try infer_instance) | (apply rsz; (focus exact xx); (focus exact xx); all_goals try infer_instance) | (apply rt; (focus exact xx); (focus exact xx)) | (apply rso; (focus exact xx); (focus exact xx); all_goals try infer_instance) | (apply rmm; (focus exact xx); intro _) | (apply rsb; (focus exact xx); (focus exact xx)) | (apply ru; (focus exact xx); (focus exact xx)) | (apply rm; (focus exact xx); (focus exact xx); intro _) | (apply rk; (focus exact xx); (focus exact xx); intro _) | (apply rcf; (focus exact xx); (focus (apply ACF.mk; (focus exact xx); (focus exact inferInstance); (focus exact xx); (focus exact inferInstance); (focus exact xx); (focus exact rfl)))) | (apply rco; (focus exact xx); (focus (apply ACO.mk; (focus exact xx); (focus exact xx); (focus exact inferInstance); (focus exact xx); (focus exact xx))); intro _) | (apply rc; (focus exact xx); (focus exact xx)) | (apply rk'; (focus exact xx); (focus exact xx))
  · rename_i h
    dsimp only at h
    refine ⟨_, _, ?_, sbc, j + 1, rfl, by omega, by omega, .inr h.1.1.1.1, ?_, rfl, rfl⟩
    · omega
    · rw [all_nth (by omega), hall, hnd, low]; simp; omega
  · rename_i h hq
    dsimp only at h hq
    have hn := name_end hj8 hjl hj0 hall h
    obtain rfl : j = 0 := by omega
    have hfc : failC { s := c.s, at' := c.at' + 0, ops := c.ops, e := c.e } 2 = nameC c := by rw [nameC, hn, if_pos rfl]; rfl
    have hfe : ∃ e, nameC c = { c with e := e } := by
      rw [nameC, hn, if_pos rfl, failC]
      split
      · exact ⟨_, rfl⟩
      · exact ⟨c.e, rfl⟩
    rw [hfc]
    obtain ⟨e, hfe⟩ := hfe
    rw [hfe]
    repeat' first | (apply dr_fin; (focus exact xx)) | (apply dr_gt; (focus exact xx)) | (apply dr_gf; (focus exact xx); (focus first | exact .inl rfl | exact .inr rfl); focus (first | exact InD.no | (apply InD.so; (focus exact xx)))) | (apply dr_v; focus (apply DV.mk; (focus exact RF.mk rfl); (focus exact RF.mk rfl); (focus exact RF.mk rfl); (focus exact RF.mk rfl); (focus exact xx); focus (first | exact InD.no | (apply InD.so; (focus exact xx))))) | (apply dr_ve; focus (apply DVE.mk; (focus exact RF.mk rfl); (focus exact RF.mk rfl); (focus exact RF.mk rfl); (focus exact xx); focus (first | exact InD.no | (apply InD.so; (focus exact xx))))) | (apply dr_r; focus (apply DL.mk; (focus exact RF.mk rfl); (focus exact xx); (focus exact xx); focus (first | exact InD.no | (apply InD.so; (focus exact xx))))) | (apply dr_l; (focus exact RF.mk rfl); (focus exact RF.mk rfl); (focus exact RF.mk rfl); (focus exact RF.mk rfl); (focus exact RF.mk rfl)) | (apply dr_e; (focus exact RF.mk rfl); (focus exact RF.mk rfl); (focus exact RF.mk rfl); (focus exact RF.mk rfl)) | (apply rd_e; (focus exact xx); focus (repeat first | exact PO.nil | apply PO.zero | (apply PO.ld; (focus exact xx)))) | (apply rd_l; (focus exact xx)) | refine wh_seq ?_ | refine wh_skip ?_ | refine wh_block ?_ | refine wh_end ?_ | refine wh_exit ?_ | refine wh_ret ?_ | refine bk_norm ?_ | refine bk_exit ?_ | refine bk_ret ?_ | refine fr_exit ?_ | refine fr_ret ?_ | refine lp_exit ?_ | refine lp_ret ?_ | refine jn_exit ?_ | refine jn_ret ?_ | refine bk_other rfl ?_ | (apply wr; focus exact xx) | (apply wi; (focus exact xx); (focus exact xx); all_goals intro _; all_goals try first | contradiction | (exfalso; omega) | exact absurd trivial ‹_›) | refine wh_reg ?_ | refine wh_ife ?_ | (apply re; focus exact xx) | (apply rf; (focus exact xx); (focus exact xx); all_goals intro _; all_goals try first | contradiction | (exfalso; omega) | exact absurd trivial ‹_›) | (apply ra; (focus exact xx); (focus exact xx); intro _) | (apply r1; (focus exact xx); (focus exact xx); intro _) | (apply rl; (focus exact xx); (focus exact xx); intro _) | (apply rb; (focus exact xx); (focus exact xx); intro _) | (apply rsi; (focus exact xx); (focus exact xx); all_goals try infer_instance) | (apply rsz; (focus exact xx); (focus exact xx); all_goals try infer_instance) | (apply rt; (focus exact xx); (focus exact xx)) | (apply rso; (focus exact xx); (focus exact xx); all_goals try infer_instance) | (apply rmm; (focus exact xx); intro _) | (apply rsb; (focus exact xx); (focus exact xx)) | (apply ru; (focus exact xx); (focus exact xx)) | (apply rm; (focus exact xx); (focus exact xx); intro _) | (apply rk; (focus exact xx); (focus exact xx); intro _) | (apply rcf; (focus exact xx); (focus (apply ACF.mk; (focus exact xx); (focus exact inferInstance); (focus exact xx); (focus exact inferInstance); (focus exact xx); (focus exact rfl)))) | (apply rco; (focus exact xx); (focus (apply ACO.mk; (focus exact xx); (focus exact xx); (focus exact inferInstance); (focus exact xx); (focus exact xx))); intro _) | (apply rc; (focus exact xx); (focus exact xx)) | (apply rk'; (focus exact xx); (focus exact xx))
    refine fv ?_ rfl
    rw [hn]
    simp
  · rename_i h hq
    dsimp only at h hq
    have hn := name_end hj8 hjl hj0 hall h
    have hj : ¬ j = 0 := fun h0 => hq (by rw [h0]; rfl)
    refine fv ?_ ?_
    · rw [hn]
      show V.str ((c.s.drop (c.at' : Int).toNat).take (((c.at' + j : Nat) : Int).toNat - (c.at' : Int).toNat)) = _
      rw [Int.toNat_natCast, Int.toNat_natCast, Nat.add_sub_cancel_left]
    · rw [nameC, hn, if_neg hj]⟩
end Go.AM

set_option linter.unusedVariables false
set_option linter.unusedSimpArgs false
namespace Go.AM
attribute [-simp] List.length_flatten List.map_flatten List.map_take List.map_map List.flatten_append
theorem span_le (s : List UInt8) (a : Nat) (h : a ≤ s.length) : ∃ k : Nat, spanI s a = k ∧ a + k ≤ s.length := by
  unfold spanI
  split
  · exact ⟨0, rfl, h⟩
  · refine ⟨_, rfl, ?_⟩
    have h1 := sgn_le (s.drop (a : Int).toNat)
    have h2 := tw_dw (p := dig) ((s.drop (a : Int).toNat).drop (sgn (s.drop (a : Int).toNat)))
    rw [List.length_drop, List.length_drop] at h2
    rw [List.length_drop] at h1
    rw [spanR]
    simp only [Int.toNat_natCast] at *
    omega
def numT (c : Cur) : List UInt8 := (c.s.drop c.at').take (spanI c.s c.at').toNat
def numberC (c : Cur) : Cur := if c.e = 0 then (if (getS (numT c)).2 = 0 then { c with at' := c.at' + (spanI c.s c.at').toNat } else failC c (getS (numT c)).2) else c
def numberV (c : Cur) : Int := if c.e = 0 then (if (getS (numT c)).2 = 0 then (getS (numT c)).1 else 0) else 0
instance (id : Nat) : Fam n.read_cursor__number [.ptr id 4 0 0] Cur (cb id) := ⟨trivial⟩
set_option maxHeartbeats 1000000 in
instance number_cf (id : Nat) (c : Cur) : CEF T0 (cb id) n.read_cursor__number [.ptr id 4 0 0] c (c.at' ≤ c.s.length ∧ c.s.length ≤ 1048576) (.int .i64 (numberV c)) (numberC c) := ⟨fun ⟨hb1, hb2⟩ L C hat => by
  have hm := hat.fact
  obtain ⟨k, hk, hkl⟩ := span_le c.s c.at' hb1
  have hT : numT c = (c.s.drop (c.at' : Int).toNat).take (((c.at' + k : Nat) : Int).toNat - (c.at' : Int).toNat) := by
    rw [numT, hk, Int.toNat_natCast, Int.toNat_natCast]; congr 1; omega
  have hTl : (numT c).length ≤ 1048576 := by rw [numT, List.length_take, List.length_drop]; omega
  have c1 : PCon T0 n.num_Span [.str c.s, .int .i64 (c.at' : Nat)] false True (.int .i64 (k : Nat)) := ⟨fun _ => by have := (num_Span c.s c.at').con hb2; rw [hk] at this; exact this⟩
  have c2 : PCon T0 n.num_Get [.str ((c.s.drop (c.at' : Int).toNat).take (((c.at' + k : Nat) : Int).toNat - (c.at' : Int).toNat))] false True (.tup [.int .i64 (getS (numT c)).1, .int .i64 (getS (numT c)).2]) := ⟨fun _ => by have := (num_Get (numT c)).con hTl; rw [hT] at this ⊢; exact this⟩
  have hN : numberC c = if c.e = 0 then (if (getS (numT c)).2 = 0 then { c with at' := c.at' + k } else failC c (getS (numT c)).2) else c := by rw [numberC, hk]; rfl
  have hV : numberV c = if c.e = 0 then (if (getS (numT c)).2 = 0 then (getS (numT c)).1 else 0) else 0 := rfl
  rw [hN, hV]
  generalize getS (numT c) = g at *
  refine rx tabOk ?_
  repeat' first | (apply dr_fin; (focus exact xx)) | (apply dr_gt; (focus exact xx)) | (apply dr_gf; (focus exact xx); (focus first | exact .inl rfl | exact .inr rfl); focus (first | exact InD.no | (apply InD.so; (focus exact xx)))) | (apply dr_v; focus (apply DV.mk; (focus exact RF.mk rfl); (focus exact RF.mk rfl); (focus exact RF.mk rfl); (focus exact RF.mk rfl); (focus exact xx); focus (first | exact InD.no | (apply InD.so; (focus exact xx))))) | (apply dr_ve; focus (apply DVE.mk; (focus exact RF.mk rfl); (focus exact RF.mk rfl); (focus exact RF.mk rfl); (focus exact xx); focus (first | exact InD.no | (apply InD.so; (focus exact xx))))) | (apply dr_r; focus (apply DL.mk; (focus exact RF.mk rfl); (focus exact xx); (focus exact xx); focus (first | exact InD.no | (apply InD.so; (focus exact xx))))) | (apply dr_l; (focus exact RF.mk rfl); (focus exact RF.mk rfl); (focus exact RF.mk rfl); (focus exact RF.mk rfl); (focus exact RF.mk rfl)) | (apply dr_e; (focus exact RF.mk rfl); (focus exact RF.mk rfl); (focus exact RF.mk rfl); (focus exact RF.mk rfl)) | (apply rd_e; (focus exact xx); focus (repeat first | exact PO.nil | apply PO.zero | (apply PO.ld; (focus exact xx)))) | (apply rd_l; (focus exact xx)) | refine wh_seq ?_ | refine wh_skip ?_ | refine wh_block ?_ | refine wh_end ?_ | refine wh_exit ?_ | refine wh_ret ?_ | refine bk_norm ?_ | refine bk_exit ?_ | refine bk_ret ?_ | refine fr_exit ?_ | refine fr_ret ?_ | refine lp_exit ?_ | refine lp_ret ?_ | refine jn_exit ?_ | refine jn_ret ?_ | refine bk_other rfl ?_ | (apply wr; focus exact xx) | (apply wi; (focus exact xx); (focus exact xx); all_goals intro _; all_goals try first | contradiction | (exfalso; omega) | exact absurd trivial ‹_›) | refine wh_reg ?_ | refine wh_ife ?_ | (apply re; focus exact xx) | (apply rf; (focus exact xx); (focus exact xx); all_goals intro _; all_goals try first | contradiction | (exfalso; omega) | exact absurd trivial ‹_›) | (apply ra; (focus exact xx); (focus exact xx); intro _) | (apply r1; (focus exact xx); (focus exact xx); intro _) | (apply rl; (focus exact xx); (focus exact xx); intro _) | (apply rb; (focus exact xx); (focus exact xx); intro _) | (apply rsi; (focus exact xx); (focus exact xx); all_goals try infer_instance) | (apply rsz; (focus exact xx); (focus exact xx); all_goals try infer_instance) | (apply rt; (focus exact xx); (focus exact xx)) | (apply rso; (focus exact xx); (focus exact xx); all_goals try infer_instance) | (apply rmm; (focus exact xx); intro _) | (apply rsb; (focus exact xx); (focus exact xx)) | (apply ru; (focus exact xx); (focus exact xx)) | (apply rm; (focus exact xx); (focus exact xx); intro _) | (apply rk; (focus exact xx); (focus exact xx); intro _) | (apply rcf; (focus exact xx); (focus (apply ACF.mk; (focus exact xx); (focus exact inferInstance); (focus exact xx); (focus exact inferInstance); (focus exact xx); (focus exact rfl)))) | (apply rco; (focus exact xx); (focus (apply ACO.mk; (focus exact xx); (focus exact xx); (focus exact inferInstance); (focus exact xx); (focus exact xx))); intro _) | (apply rc; (focus exact xx); (focus exact xx)) | (apply rk'; (focus exact xx); (focus exact xx))
  · rename_i h
    refine fv ?_ ?_
    · rw [if_neg h]
    · rw [if_neg h, hat.self]
  · rename_i h h2
    have h : c.e = 0 := Decidable.not_not.1 h
    refine fv ?_ ?_
    · rw [if_pos h, if_neg h2]
    · rw [if_pos h, if_neg h2]
  · rename_i h h2
    have h : c.e = 0 := Decidable.not_not.1 h
    have h2 : g.2 = 0 := Decidable.not_not.1 h2
    refine fv ?_ ?_
    · rw [if_pos h, if_pos h2]
    · rw [if_pos h, if_pos h2]⟩
end Go.AM

set_option linter.unusedVariables false
set_option linter.unusedSimpArgs false
namespace Go.AM
attribute [-simp] List.length_flatten List.map_flatten List.map_take List.map_map List.flatten_append
def okCu (c : Cur) : Prop := c.at' ≤ c.s.length ∧ c.s.length ≤ 1048576
theorem fail_ok {c : Cur} {e : Int} (h : okCu c) : okCu (failC c e) := by
  unfold failC; split <;> exact h
theorem fail_s (c : Cur) (e : Int) : (failC c e).s = c.s ∧ (failC c e).ops = c.ops ∧ (failC c e).at' = c.at' := by
  unfold failC; split <;> exact ⟨rfl, rfl, rfl⟩
theorem sees_lt {c : Cur} {b : UInt8} (h : seesC c b = true) : c.e = 0 ∧ c.at' < c.s.length ∧ nth c.s c.at' = b := by
  simpa [seesC] using h
theorem take_ok {c : Cur} {b : UInt8} (h : okCu c) : okCu (takeC c b) := by
  unfold takeC; split
  · rename_i hs; exact ⟨(sees_lt hs).2.1, h.2⟩
  · exact h
theorem take_s (c : Cur) (b : UInt8) : (takeC c b).s = c.s ∧ (takeC c b).ops = c.ops ∧ (takeC c b).e = c.e := by
  unfold takeC; split <;> exact ⟨rfl, rfl, rfl⟩
theorem must_ok {c : Cur} {b : UInt8} (h : okCu c) : okCu (mustC c b) := by
  unfold mustC; split
  · exact take_ok h
  · exact fail_ok (take_ok h)
theorem must_s (c : Cur) (b : UInt8) : (mustC c b).s = c.s ∧ (mustC c b).ops = c.ops := by
  unfold mustC; split
  · exact ⟨(take_s c b).1, (take_s c b).2.1⟩
  · exact ⟨(fail_s _ _).1.trans (take_s c b).1, (fail_s _ _).2.1.trans (take_s c b).2.1⟩
theorem name_le (c : Cur) : nameN c ≤ c.s.length - c.at' := by
  unfold nameN; split
  · have := tw_dw (p := low) (c.s.drop c.at')
    rw [List.length_drop] at this; omega
  · omega
theorem name_ok {c : Cur} (h : okCu c) : okCu (nameC c) := by
  unfold nameC; split
  · exact fail_ok h
  · exact ⟨by show c.at' + nameN c ≤ c.s.length; have := name_le c; have := h.1; omega, h.2⟩
theorem name_s (c : Cur) : (nameC c).s = c.s ∧ (nameC c).ops = c.ops := by
  unfold nameC; split
  · exact ⟨(fail_s _ _).1, (fail_s _ _).2.1⟩
  · exact ⟨rfl, rfl⟩
theorem number_ok {c : Cur} (h : okCu c) : okCu (numberC c) := by
  obtain ⟨k, hk, hkl⟩ := span_le c.s c.at' h.1
  unfold numberC; split
  · split
    · exact ⟨by show c.at' + (spanI c.s c.at').toNat ≤ c.s.length; rw [hk]; simpa using hkl, h.2⟩
    · exact fail_ok h
  · exact h
theorem number_s (c : Cur) : (numberC c).s = c.s ∧ (numberC c).ops = c.ops := by
  unfold numberC; split
  · split
    · exact ⟨rfl, rfl⟩
    · exact ⟨(fail_s _ _).1, (fail_s _ _).2.1⟩
  · exact ⟨rfl, rfl⟩
/-- One operation, read: the states one by one. -/
def op1 (c : Cur) : Cur := if c.ops = 4096 ∧ (seesC c 119 = true ∨ seesC c 114 = true) then failC c 3 else c
def op2 (c : Cur) : Cur := takeC (op1 c) 119
def op3 (c : Cur) : Cur := if seesC (op1 c) 119 = true then op2 c else mustC (op2 c) 114
def op4 (c : Cur) : Cur := mustC (op3 c) 58
def op5 (c : Cur) : Cur := nameC (op4 c)
def op6 (c : Cur) : Cur := mustC (op5 c) 61
def op7 (c : Cur) : Cur := numberC (op6 c)
def opC (c : Cur) : Cur := { op7 c with ops := (op7 c).ops + 1 }
def opV (c : Cur) : Op := ⟨seesC (op1 c) 119, ((op4 c).s.drop (op4 c).at').take (nameN (op4 c)), numberV (op6 c)⟩
theorem op1_ok {c : Cur} (h : okCu c) : okCu (op1 c) := by
  unfold op1; split
  · exact fail_ok h
  · exact h
theorem op3_ok {c : Cur} (h : okCu c) : okCu (op3 c) := by
  unfold op3; split
  · exact take_ok (op1_ok h)
  · exact must_ok (take_ok (op1_ok h))
theorem op7_ok {c : Cur} (h : okCu c) : okCu (op7 c) := number_ok (must_ok (name_ok (must_ok (op3_ok h))))
theorem opC_ok {c : Cur} (h : okCu c) : okCu (opC c) := op7_ok h
end Go.AM

set_option linter.unusedVariables false
set_option linter.unusedSimpArgs false
namespace Go.AM
attribute [-simp] List.length_flatten List.map_flatten List.map_take List.map_map List.flatten_append
theorem CEF.now {T : Nat → Option Fn} {α : Type} {e : α → HE} {f : Nat} {vs : List V} {c c' : α} {P : Prop} {v : V} (h : CEF T e f vs c P v c') (hP : P) : CEF T e f vs c True v c' := ⟨fun _ => h.ce hP⟩
theorem op_s (c : Cur) : (op1 c).ops = c.ops ∧ (op1 c).s = c.s ∧ (op3 c).ops = c.ops ∧ (op3 c).s = c.s ∧ (op7 c).ops = c.ops ∧ (op7 c).s = c.s := by
  have h1 : (op1 c).ops = c.ops ∧ (op1 c).s = c.s := by
    unfold op1; split
    · exact ⟨(fail_s _ _).2.1, (fail_s _ _).1⟩
    · exact ⟨rfl, rfl⟩
  have h2 : (op2 c).ops = c.ops ∧ (op2 c).s = c.s := ⟨(take_s _ _).2.1.trans h1.1, (take_s _ _).1.trans h1.2⟩
  have h3 : (op3 c).ops = c.ops ∧ (op3 c).s = c.s := by
    unfold op3; split
    · exact h2
    · exact ⟨(must_s _ _).2.trans h2.1, (must_s _ _).1.trans h2.2⟩
  have h4 : (op4 c).ops = c.ops ∧ (op4 c).s = c.s := ⟨(must_s _ _).2.trans h3.1, (must_s _ _).1.trans h3.2⟩
  have h5 : (op5 c).ops = c.ops ∧ (op5 c).s = c.s := ⟨(name_s _).2.trans h4.1, (name_s _).1.trans h4.2⟩
  have h6 : (op6 c).ops = c.ops ∧ (op6 c).s = c.s := ⟨(must_s _ _).2.trans h5.1, (must_s _ _).1.trans h5.2⟩
  have h7 : (op7 c).ops = c.ops ∧ (op7 c).s = c.s := ⟨(number_s _).2.trans h6.1, (number_s _).1.trans h6.2⟩
  exact ⟨h1.1, h1.2, h3.1, h3.2, h7.1, h7.2⟩
instance (id : Nat) : Fam n.read_cursor__op [.ptr id 4 0 0] Cur (cb id) := ⟨trivial⟩
set_option maxHeartbeats 4000000 in
instance op_cf (id : Nat) (c : Cur) : CEF T0 (cb id) n.read_cursor__op [.ptr id 4 0 0] c (okCu c ∧ c.ops ≤ 1048576) (eOp (opV c)) (opC c) := ⟨fun ⟨hb, ho⟩ L C hat => by
  have hm := hat.fact
  have ok1 := op1_ok hb
  have ok2 : okCu (op2 c) := take_ok ok1
  have ok3 := op3_ok hb
  have ok4 : okCu (op4 c) := must_ok ok3
  have ok5 : okCu (op5 c) := name_ok ok4
  have ok6 : okCu (op6 c) := must_ok ok5
  have hs := op_s c
  obtain ⟨hb1, hb2⟩ := hb
  have k1 : ∀ i o, RC T0 (.ob i o :: L) n.read_cursor__sees [.ptr id 4 0 0, .int .u8 119] (.bool (seesC c 119)) := fun i o => sees_rc c ⟨List.mem_cons_of_mem _ hm.h⟩ 119
  have k2 : ∀ i o, RC T0 (.ob i o :: L) n.read_cursor__sees [.ptr id 4 0 0, .int .u8 114] (.bool (seesC c 114)) := fun i o => sees_rc c ⟨List.mem_cons_of_mem _ hm.h⟩ 114
  have t1 : CEF T0 (cb id) n.read_cursor__take [.ptr id 4 0 0, .int .u8 119] (op1 c) True (.bool (seesC (op1 c) 119)) (op2 c) := (take_cf id (op1 c) 119).now (Nat.le_trans ok1.1 ok1.2)
  have t2 : CEF T0 (cb id) n.read_cursor__must [.ptr id 4 0 0, .int .u8 114] (op2 c) True (.tup []) (mustC (op2 c) 114) := (must_cf id (op2 c) 114).now (Nat.le_trans ok2.1 ok2.2)
  have t3 : CEF T0 (cb id) n.read_cursor__must [.ptr id 4 0 0, .int .u8 58] (op3 c) True (.tup []) (op4 c) := (must_cf id (op3 c) 58).now (Nat.le_trans ok3.1 ok3.2)
  have t4 : CEF T0 (cb id) n.read_cursor__name [.ptr id 4 0 0] (op4 c) True (.str (((op4 c).s.drop (op4 c).at').take (nameN (op4 c)))) (op5 c) := (name_cf id (op4 c)).now ok4
  have t5 : CEF T0 (cb id) n.read_cursor__must [.ptr id 4 0 0, .int .u8 61] (op5 c) True (.tup []) (op6 c) := (must_cf id (op5 c) 61).now (Nat.le_trans ok5.1 ok5.2)
  have t6 : CEF T0 (cb id) n.read_cursor__number [.ptr id 4 0 0] (op6 c) True (.int .i64 (numberV (op6 c))) (op7 c) := (number_cf id (op6 c)).now ok6
  refine rxg tabOk ?_
  repeat' first | (apply dr_fin; (focus exact xx)) | (apply dr_gt; (focus exact xx)) | (apply dr_gf; (focus exact xx); (focus first | exact .inl rfl | exact .inr rfl); focus (first | exact InD.no | (apply InD.so; (focus exact xx)))) | (apply dr_v; focus (apply DV.mk; (focus exact RF.mk rfl); (focus exact RF.mk rfl); (focus exact RF.mk rfl); (focus exact RF.mk rfl); (focus exact xx); focus (first | exact InD.no | (apply InD.so; (focus exact xx))))) | (apply dr_ve; focus (apply DVE.mk; (focus exact RF.mk rfl); (focus exact RF.mk rfl); (focus exact RF.mk rfl); (focus exact xx); focus (first | exact InD.no | (apply InD.so; (focus exact xx))))) | (apply dr_r; focus (apply DL.mk; (focus exact RF.mk rfl); (focus exact xx); (focus exact xx); focus (first | exact InD.no | (apply InD.so; (focus exact xx))))) | (apply dr_l; (focus exact RF.mk rfl); (focus exact RF.mk rfl); (focus exact RF.mk rfl); (focus exact RF.mk rfl); (focus exact RF.mk rfl)) | (apply dr_e; (focus exact RF.mk rfl); (focus exact RF.mk rfl); (focus exact RF.mk rfl); (focus exact RF.mk rfl)) | (apply rd_e; (focus exact xx); focus (repeat first | exact PO.nil | apply PO.zero | (apply PO.ld; (focus exact xx)))) | (apply rd_l; (focus exact xx)) | refine wh_seq ?_ | refine wh_skip ?_ | refine wh_block ?_ | refine wh_end ?_ | refine wh_exit ?_ | refine wh_ret ?_ | refine bk_norm ?_ | refine bk_exit ?_ | refine bk_ret ?_ | refine fr_exit ?_ | refine fr_ret ?_ | refine lp_exit ?_ | refine lp_ret ?_ | refine jn_exit ?_ | refine jn_ret ?_ | refine bk_other rfl ?_ | (apply wr; focus exact xx) | refine wh_reg ?_ | (apply re; focus exact xx) | (apply ra; (focus exact xx); (focus exact xx); intro _) | (apply r1; (focus exact xx); (focus exact xx); intro _) | (apply rl; (focus exact xx); (focus exact xx); intro _) | (apply rb; (focus exact xx); (focus exact xx); intro _) | (apply rsi; (focus exact xx); (focus exact xx); all_goals try infer_instance) | (apply rsz; (focus exact xx); (focus exact xx); all_goals try infer_instance) | (apply rt; (focus exact xx); (focus exact xx)) | (apply rso; (focus exact xx); (focus exact xx); all_goals try infer_instance) | (apply rmm; (focus exact xx); intro _) | (apply rsb; (focus exact xx); (focus exact xx)) | (apply ru; (focus exact xx); (focus exact xx)) | (apply rm; (focus exact xx); (focus exact xx); intro _) | (apply rk; (focus exact xx); (focus exact xx); intro _) | (apply rcf; (focus exact xx); (focus (apply ACF.mk; (focus exact xx); (focus exact inferInstance); (focus exact xx); (focus exact inferInstance); (focus exact xx); (focus exact rfl)))) | (apply rco; (focus exact xx); (focus (apply ACO.mk; (focus exact xx); (focus exact xx); (focus exact inferInstance); (focus exact xx); (focus exact xx))); intro _) | (apply rc; (focus exact xx); (focus exact xx)) | (apply rk'; (focus exact xx); (focus exact xx))
  refine wh_cat (fun A L => ∃ i, A = [(0, .ptr id 4 0 0), (2, .ptr i 3 0 0)] ∧ L = .ob i (.row 3 true [.agg [.bool false, .str [], .int .i64 0]]) :: C (cb id (op1 c))) ?_ ?_
  · repeat' first | (apply dr_fin; (focus exact xx)) | (apply dr_gt; (focus exact xx)) | (apply dr_gf; (focus exact xx); (focus first | exact .inl rfl | exact .inr rfl); focus (first | exact InD.no | (apply InD.so; (focus exact xx)))) | (apply dr_v; focus (apply DV.mk; (focus exact RF.mk rfl); (focus exact RF.mk rfl); (focus exact RF.mk rfl); (focus exact RF.mk rfl); (focus exact xx); focus (first | exact InD.no | (apply InD.so; (focus exact xx))))) | (apply dr_ve; focus (apply DVE.mk; (focus exact RF.mk rfl); (focus exact RF.mk rfl); (focus exact RF.mk rfl); (focus exact xx); focus (first | exact InD.no | (apply InD.so; (focus exact xx))))) | (apply dr_r; focus (apply DL.mk; (focus exact RF.mk rfl); (focus exact xx); (focus exact xx); focus (first | exact InD.no | (apply InD.so; (focus exact xx))))) | (apply dr_l; (focus exact RF.mk rfl); (focus exact RF.mk rfl); (focus exact RF.mk rfl); (focus exact RF.mk rfl); (focus exact RF.mk rfl)) | (apply dr_e; (focus exact RF.mk rfl); (focus exact RF.mk rfl); (focus exact RF.mk rfl); (focus exact RF.mk rfl)) | (apply rd_e; (focus exact xx); focus (repeat first | exact PO.nil | apply PO.zero | (apply PO.ld; (focus exact xx)))) | (apply rd_l; (focus exact xx)) | refine wh_seq ?_ | refine wh_skip ?_ | refine wh_block ?_ | refine wh_end ?_ | refine wh_exit ?_ | refine wh_ret ?_ | refine bk_norm ?_ | refine bk_exit ?_ | refine bk_ret ?_ | refine fr_exit ?_ | refine fr_ret ?_ | refine lp_exit ?_ | refine lp_ret ?_ | refine jn_exit ?_ | refine jn_ret ?_ | refine bk_other rfl ?_ | (apply wr; focus exact xx) | (apply wi; (focus exact xx); (focus exact xx); all_goals intro _; all_goals try first | contradiction | (exfalso; omega) | exact absurd trivial ‹_›) | refine wh_reg ?_ | refine wh_ife ?_ | (apply re; focus exact xx) | (apply rf; (focus exact xx); (focus exact xx); all_goals intro _; all_goals try first | contradiction | (exfalso; omega) | exact absurd trivial ‹_›) | (apply ra; (focus exact xx); (focus exact xx); intro _) | (apply r1; (focus exact xx); (focus exact xx); intro _) | (apply rl; (focus exact xx); (focus exact xx); intro _) | (apply rb; (focus exact xx); (focus exact xx); intro _) | (apply rsi; (focus exact xx); (focus exact xx); all_goals try infer_instance) | (apply rsz; (focus exact xx); (focus exact xx); all_goals try infer_instance) | (apply rt; (focus exact xx); (focus exact xx)) | (apply rso; (focus exact xx); (focus exact xx); all_goals try infer_instance) | (apply rmm; (focus exact xx); intro _) | (apply rsb; (focus exact xx); (focus exact xx)) | (apply ru; (focus exact xx); (focus exact xx)) | (apply rm; (focus exact xx); (focus exact xx); intro _) | (apply rk; (focus exact xx); (focus exact xx); intro _) | (apply rcf; (focus exact xx); (focus (apply ACF.mk; (focus exact xx); (focus exact inferInstance); (focus exact xx); (focus exact inferInstance); (focus exact xx); (focus exact rfl)))) | (apply rco; (focus exact xx); (focus (apply ACO.mk; (focus exact xx); (focus exact xx); (focus exact inferInstance); (focus exact xx); (focus exact xx))); intro _) | (apply rc; (focus exact xx); (focus exact xx)) | (apply rk'; (focus exact xx); (focus exact xx))
    · rename_i h
      refine ⟨_, rfl, ?_⟩
      rw [op1, if_pos ⟨by omega, h.2⟩]
    · rename_i h
      refine ⟨_, rfl, ?_⟩
      rw [op1, if_neg (fun h' => h ⟨by omega, h'.2⟩), hat.self]
  · rintro _ _ ⟨i, rfl, rfl⟩
    repeat' first | (apply dr_fin; (focus exact xx)) | (apply dr_gt; (focus exact xx)) | (apply dr_gf; (focus exact xx); (focus first | exact .inl rfl | exact .inr rfl); focus (first | exact InD.no | (apply InD.so; (focus exact xx)))) | (apply dr_v; focus (apply DV.mk; (focus exact RF.mk rfl); (focus exact RF.mk rfl); (focus exact RF.mk rfl); (focus exact RF.mk rfl); (focus exact xx); focus (first | exact InD.no | (apply InD.so; (focus exact xx))))) | (apply dr_ve; focus (apply DVE.mk; (focus exact RF.mk rfl); (focus exact RF.mk rfl); (focus exact RF.mk rfl); (focus exact xx); focus (first | exact InD.no | (apply InD.so; (focus exact xx))))) | (apply dr_r; focus (apply DL.mk; (focus exact RF.mk rfl); (focus exact xx); (focus exact xx); focus (first | exact InD.no | (apply InD.so; (focus exact xx))))) | (apply dr_l; (focus exact RF.mk rfl); (focus exact RF.mk rfl); (focus exact RF.mk rfl); (focus exact RF.mk rfl); (focus exact RF.mk rfl)) | (apply dr_e; (focus exact RF.mk rfl); (focus exact RF.mk rfl); (focus exact RF.mk rfl); (focus exact RF.mk rfl)) | (apply rd_e; (focus exact xx); focus (repeat first | exact PO.nil | apply PO.zero | (apply PO.ld; (focus exact xx)))) | (apply rd_l; (focus exact xx)) | refine wh_seq ?_ | refine wh_skip ?_ | refine wh_block ?_ | refine wh_end ?_ | refine wh_exit ?_ | refine wh_ret ?_ | refine bk_norm ?_ | refine bk_exit ?_ | refine bk_ret ?_ | refine fr_exit ?_ | refine fr_ret ?_ | refine lp_exit ?_ | refine lp_ret ?_ | refine jn_exit ?_ | refine jn_ret ?_ | refine bk_other rfl ?_ | (apply wr; focus exact xx) | refine wh_reg ?_ | (apply re; focus exact xx) | (apply ra; (focus exact xx); (focus exact xx); intro _) | (apply r1; (focus exact xx); (focus exact xx); intro _) | (apply rl; (focus exact xx); (focus exact xx); intro _) | (apply rb; (focus exact xx); (focus exact xx); intro _) | (apply rsi; (focus exact xx); (focus exact xx); all_goals try infer_instance) | (apply rsz; (focus exact xx); (focus exact xx); all_goals try infer_instance) | (apply rt; (focus exact xx); (focus exact xx)) | (apply rso; (focus exact xx); (focus exact xx); all_goals try infer_instance) | (apply rmm; (focus exact xx); intro _) | (apply rsb; (focus exact xx); (focus exact xx)) | (apply ru; (focus exact xx); (focus exact xx)) | (apply rm; (focus exact xx); (focus exact xx); intro _) | (apply rk; (focus exact xx); (focus exact xx); intro _) | (apply rcf; (focus exact xx); (focus (apply ACF.mk; (focus exact xx); (focus exact inferInstance); (focus exact xx); (focus exact inferInstance); (focus exact xx); (focus exact rfl)))) | (apply rco; (focus exact xx); (focus (apply ACO.mk; (focus exact xx); (focus exact xx); (focus exact inferInstance); (focus exact xx); (focus exact xx))); intro _) | (apply rc; (focus exact xx); (focus exact xx)) | (apply rk'; (focus exact xx); (focus exact xx))
    rename_i k
    refine wh_cat (fun A L => A = [(0, .ptr id 4 0 0), (2, .ptr i 3 0 0), (3, .ptr k 3 0 0)] ∧ L = .ob k (.row 3 true [.agg [.bool (seesC (op1 c) 119), .str [], .int .i64 0]]) :: .ob i (.row 3 true [.agg [.bool false, .str [], .int .i64 0]]) :: C (cb id (op3 c))) ?_ ?_
    · repeat' first | (apply dr_fin; (focus exact xx)) | (apply dr_gt; (focus exact xx)) | (apply dr_gf; (focus exact xx); (focus first | exact .inl rfl | exact .inr rfl); focus (first | exact InD.no | (apply InD.so; (focus exact xx)))) | (apply dr_v; focus (apply DV.mk; (focus exact RF.mk rfl); (focus exact RF.mk rfl); (focus exact RF.mk rfl); (focus exact RF.mk rfl); (focus exact xx); focus (first | exact InD.no | (apply InD.so; (focus exact xx))))) | (apply dr_ve; focus (apply DVE.mk; (focus exact RF.mk rfl); (focus exact RF.mk rfl); (focus exact RF.mk rfl); (focus exact xx); focus (first | exact InD.no | (apply InD.so; (focus exact xx))))) | (apply dr_r; focus (apply DL.mk; (focus exact RF.mk rfl); (focus exact xx); (focus exact xx); focus (first | exact InD.no | (apply InD.so; (focus exact xx))))) | (apply dr_l; (focus exact RF.mk rfl); (focus exact RF.mk rfl); (focus exact RF.mk rfl); (focus exact RF.mk rfl); (focus exact RF.mk rfl)) | (apply dr_e; (focus exact RF.mk rfl); (focus exact RF.mk rfl); (focus exact RF.mk rfl); (focus exact RF.mk rfl)) | (apply rd_e; (focus exact xx); focus (repeat first | exact PO.nil | apply PO.zero | (apply PO.ld; (focus exact xx)))) | (apply rd_l; (focus exact xx)) | refine wh_seq ?_ | refine wh_skip ?_ | refine wh_block ?_ | refine wh_end ?_ | refine wh_exit ?_ | refine wh_ret ?_ | refine bk_norm ?_ | refine bk_exit ?_ | refine bk_ret ?_ | refine fr_exit ?_ | refine fr_ret ?_ | refine lp_exit ?_ | refine lp_ret ?_ | refine jn_exit ?_ | refine jn_ret ?_ | refine bk_other rfl ?_ | (apply wr; focus exact xx) | (apply wi; (focus exact xx); (focus exact xx); all_goals intro _; all_goals try first | contradiction | (exfalso; omega) | exact absurd trivial ‹_›) | refine wh_reg ?_ | refine wh_ife ?_ | (apply re; focus exact xx) | (apply rf; (focus exact xx); (focus exact xx); all_goals intro _; all_goals try first | contradiction | (exfalso; omega) | exact absurd trivial ‹_›) | (apply ra; (focus exact xx); (focus exact xx); intro _) | (apply r1; (focus exact xx); (focus exact xx); intro _) | (apply rl; (focus exact xx); (focus exact xx); intro _) | (apply rb; (focus exact xx); (focus exact xx); intro _) | (apply rsi; (focus exact xx); (focus exact xx); all_goals try infer_instance) | (apply rsz; (focus exact xx); (focus exact xx); all_goals try infer_instance) | (apply rt; (focus exact xx); (focus exact xx)) | (apply rso; (focus exact xx); (focus exact xx); all_goals try infer_instance) | (apply rmm; (focus exact xx); intro _) | (apply rsb; (focus exact xx); (focus exact xx)) | (apply ru; (focus exact xx); (focus exact xx)) | (apply rm; (focus exact xx); (focus exact xx); intro _) | (apply rk; (focus exact xx); (focus exact xx); intro _) | (apply rcf; (focus exact xx); (focus (apply ACF.mk; (focus exact xx); (focus exact inferInstance); (focus exact xx); (focus exact inferInstance); (focus exact xx); (focus exact rfl)))) | (apply rco; (focus exact xx); (focus (apply ACO.mk; (focus exact xx); (focus exact xx); (focus exact inferInstance); (focus exact xx); (focus exact xx))); intro _) | (apply rc; (focus exact xx); (focus exact xx)) | (apply rk'; (focus exact xx); (focus exact xx))
      · rename_i h
        refine ⟨rfl, ?_⟩
        rw [op3, if_neg h]
      · rename_i h
        refine ⟨rfl, ?_⟩
        rw [op3, if_pos (Decidable.not_not.1 h)]
    · rintro _ _ ⟨rfl, rfl⟩
      repeat' first | (apply dr_fin; (focus exact xx)) | (apply dr_gt; (focus exact xx)) | (apply dr_gf; (focus exact xx); (focus first | exact .inl rfl | exact .inr rfl); focus (first | exact InD.no | (apply InD.so; (focus exact xx)))) | (apply dr_v; focus (apply DV.mk; (focus exact RF.mk rfl); (focus exact RF.mk rfl); (focus exact RF.mk rfl); (focus exact RF.mk rfl); (focus exact xx); focus (first | exact InD.no | (apply InD.so; (focus exact xx))))) | (apply dr_ve; focus (apply DVE.mk; (focus exact RF.mk rfl); (focus exact RF.mk rfl); (focus exact RF.mk rfl); (focus exact xx); focus (first | exact InD.no | (apply InD.so; (focus exact xx))))) | (apply dr_r; focus (apply DL.mk; (focus exact RF.mk rfl); (focus exact xx); (focus exact xx); focus (first | exact InD.no | (apply InD.so; (focus exact xx))))) | (apply dr_l; (focus exact RF.mk rfl); (focus exact RF.mk rfl); (focus exact RF.mk rfl); (focus exact RF.mk rfl); (focus exact RF.mk rfl)) | (apply dr_e; (focus exact RF.mk rfl); (focus exact RF.mk rfl); (focus exact RF.mk rfl); (focus exact RF.mk rfl)) | (apply rd_e; (focus exact xx); focus (repeat first | exact PO.nil | apply PO.zero | (apply PO.ld; (focus exact xx)))) | (apply rd_l; (focus exact xx)) | refine wh_seq ?_ | refine wh_skip ?_ | refine wh_block ?_ | refine wh_end ?_ | refine wh_exit ?_ | refine wh_ret ?_ | refine bk_norm ?_ | refine bk_exit ?_ | refine bk_ret ?_ | refine fr_exit ?_ | refine fr_ret ?_ | refine lp_exit ?_ | refine lp_ret ?_ | refine jn_exit ?_ | refine jn_ret ?_ | refine bk_other rfl ?_ | (apply wr; focus exact xx) | (apply wi; (focus exact xx); (focus exact xx); all_goals intro _; all_goals try first | contradiction | (exfalso; omega) | exact absurd trivial ‹_›) | refine wh_reg ?_ | refine wh_ife ?_ | (apply re; focus exact xx) | (apply rf; (focus exact xx); (focus exact xx); all_goals intro _; all_goals try first | contradiction | (exfalso; omega) | exact absurd trivial ‹_›) | (apply ra; (focus exact xx); (focus exact xx); intro _) | (apply r1; (focus exact xx); (focus exact xx); intro _) | (apply rl; (focus exact xx); (focus exact xx); intro _) | (apply rb; (focus exact xx); (focus exact xx); intro _) | (apply rsi; (focus exact xx); (focus exact xx); all_goals try infer_instance) | (apply rsz; (focus exact xx); (focus exact xx); all_goals try infer_instance) | (apply rt; (focus exact xx); (focus exact xx)) | (apply rso; (focus exact xx); (focus exact xx); all_goals try infer_instance) | (apply rmm; (focus exact xx); intro _) | (apply rsb; (focus exact xx); (focus exact xx)) | (apply ru; (focus exact xx); (focus exact xx)) | (apply rm; (focus exact xx); (focus exact xx); intro _) | (apply rk; (focus exact xx); (focus exact xx); intro _) | (apply rcf; (focus exact xx); (focus (apply ACF.mk; (focus exact xx); (focus exact inferInstance); (focus exact xx); (focus exact inferInstance); (focus exact xx); (focus exact rfl)))) | (apply rco; (focus exact xx); (focus (apply ACO.mk; (focus exact xx); (focus exact xx); (focus exact inferInstance); (focus exact xx); (focus exact xx))); intro _) | (apply rc; (focus exact xx); (focus exact xx)) | (apply rk'; (focus exact xx); (focus exact xx))
      exact fvg rfl (.of (.cons _ (.cons _ (List.Sublist.refl _)))) rfl⟩
end Go.AM

set_option linter.unusedVariables false
set_option linter.unusedSimpArgs false
namespace Go.AM
attribute [-simp] List.length_flatten List.map_flatten List.map_take List.map_map List.flatten_append
/-! How far the cursor's methods go. -/
theorem take_at (c : Cur) (b : UInt8) : c.at' ≤ (takeC c b).at' := by
  unfold takeC; split
  · exact Nat.le_succ _
  · exact Nat.le_refl _
theorem must_at (c : Cur) (b : UInt8) : c.at' ≤ (mustC c b).at' := by
  unfold mustC; split
  · exact take_at c b
  · rw [(fail_s _ _).2.2]; exact take_at c b
theorem name_at (c : Cur) : c.at' ≤ (nameC c).at' := by
  unfold nameC; split
  · rw [(fail_s _ _).2.2]; exact Nat.le_refl _
  · exact Nat.le_add_right _ _
theorem number_at (c : Cur) : c.at' ≤ (numberC c).at' := by
  unfold numberC; split
  · split
    · exact Nat.le_add_right _ _
    · rw [(fail_s _ _).2.2]; exact Nat.le_refl _
  · exact Nat.le_refl _
theorem op_at (c : Cur) : c.at' ≤ (opC c).at' := by
  have h1 : c.at' ≤ (op1 c).at' := by
    unfold op1; split
    · rw [(fail_s _ _).2.2]; exact Nat.le_refl _
    · exact Nat.le_refl _
  have h3 : c.at' ≤ (op3 c).at' := by
    unfold op3; split
    · exact Nat.le_trans h1 (take_at _ _)
    · exact Nat.le_trans (Nat.le_trans h1 (take_at _ _)) (must_at _ _)
  exact Nat.le_trans (Nat.le_trans (Nat.le_trans (Nat.le_trans h3 (must_at _ _)) (name_at _)) (must_at _ _)) (number_at _)
theorem op_cs (c : Cur) : (opC c).s = c.s ∧ (opC c).ops = c.ops + 1 := ⟨(op_s c).2.2.2.2.2, congrArg (· + 1) (op_s c).2.2.2.2.1⟩
/-- What follows in a line, behind its first operation. -/
def moreC : Nat → Cur → List Op × Cur
  | 0, c => ([], c)
  | k + 1, c => if seesC c 32 = true then (opV (takeC c 32) :: (moreC k (opC (takeC c 32))).1, (moreC k (opC (takeC c 32))).2) else ([], c)
def lineV (c : Cur) : List Op := if seesC c 10 = true then [] else opV c :: (moreC c.s.length (opC c)).1
def lineC (c : Cur) : Cur := if seesC c 10 = true then takeC c 10 else mustC (moreC c.s.length (opC c)).2 10
theorem take_no {c : Cur} {b : UInt8} (h : ¬ seesC c b = true) : takeC c b = c := by rw [takeC, if_neg h]
theorem take_yes {c : Cur} {b : UInt8} (h : seesC c b = true) : takeC c b = { c with at' := c.at' + 1 } := by rw [takeC, if_pos h]
theorem more_ok : ∀ {m : Nat} {c : Cur}, okCu c → okCu (moreC m c).2
  | 0, _, h => h
  | m + 1, c, h => by
    unfold moreC; split
    · exact more_ok (opC_ok (take_ok h))
    · exact h
theorem more_s : ∀ {m : Nat} {c : Cur}, (moreC m c).2.s = c.s
  | 0, _ => rfl
  | m + 1, c => by
    unfold moreC; split
    · exact (more_s (m := m)).trans ((op_cs _).1.trans (take_s _ _).1)
    · rfl
theorem more_ops : ∀ {m : Nat} {c : Cur} {k : Nat}, c.ops ≤ c.at' + k → (moreC m c).2.ops ≤ (moreC m c).2.at' + k
  | 0, _, _, h => h
  | m + 1, c, k, h => by
    unfold moreC; split
    · rename_i hs
      refine more_ops (m := m) ?_
      have h1 := op_at (takeC c 32)
      rw [(op_cs _).2, (take_s _ _).2.1]
      rw [take_yes hs] at h1 ⊢
      simp only at h1
      omega
    · exact h
theorem more_at : ∀ {m : Nat} {c : Cur}, c.at' ≤ (moreC m c).2.at'
  | 0, _ => Nat.le_refl _
  | m + 1, c => by
    unfold moreC; split
    · exact Nat.le_trans (Nat.le_trans (take_at c 32) (op_at _)) (more_at (m := m))
    · exact Nat.le_refl _
/-- The line's premise. -/
def okL (c : Cur) : Prop := okCu c ∧ c.ops ≤ c.at'
theorem line_s (c : Cur) : (lineC c).s = c.s := by
  unfold lineC; split
  · exact (take_s _ _).1
  · exact (must_s _ _).1.trans (more_s.trans (op_cs _).1)
theorem line_ok {c : Cur} (h : okL c) : okCu (lineC c) := by
  unfold lineC; split
  · exact take_ok h.1
  · exact must_ok (more_ok (opC_ok h.1))
theorem must_e {c : Cur} {b : UInt8} (h : (mustC c b).e = 0) : seesC c b = true := by
  by_cases hs : seesC c b = true
  · exact hs
  · rw [mustC, if_neg hs, failC] at h
    split at h
    · cases h
    · contradiction
theorem line_ops {c : Cur} (h : okL c) (he : (lineC c).e = 0) : okL (lineC c) ∧ c.at' < (lineC c).at' := by
  refine ⟨⟨line_ok h, ?_⟩, ?_⟩
  · unfold lineC at he ⊢; split
    · rename_i hs; rw [take_yes hs]; exact Nat.le_succ_of_le h.2
    · rename_i hs
      rw [if_neg hs] at he
      have h1 : (opC c).ops ≤ (opC c).at' + 1 := by rw [(op_cs c).2]; have := op_at c; have := h.2; omega
      have h2 := more_ops (m := c.s.length) h1
      have h3 := must_e he
      rw [mustC, if_pos h3, take_yes h3]
      exact h2
  · unfold lineC at he ⊢; split
    · rename_i hs; rw [take_yes hs]; exact Nat.lt_succ_self _
    · rename_i hs
      rw [if_neg hs] at he
      have h3 := must_e he
      rw [mustC, if_pos h3, take_yes h3]
      exact Nat.lt_succ_of_le (Nat.le_trans (op_at c) more_at)
set_option maxHeartbeats 4000000 in
theorem line_ce {id : Nat} {c : Cur} (hb : okL c) {L : List HE} {C : HE → List HE} (hat : Hole (cb id c) L C) : CE T0 n.read_cursor__line [.ptr id 4 0 0] L (fun u L' => ∃ g : Hd, u = g.v ∧ L' = .own g 3 true ((lineV c).map eOp) :: C (cb id (lineC c))) := by
  have hm := hat.fact
  obtain ⟨⟨hb1, hb2⟩, hb3⟩ := hb
  have t1 : CEF T0 (cb id) n.read_cursor__take [.ptr id 4 0 0, .int .u8 10] c True (.bool (seesC c 10)) (takeC c 10) := (take_cf id c 10).now (by omega)
  refine rx tabOk ?_
  repeat' first | (apply dr_fin; (focus exact xx)) | (apply dr_gt; (focus exact xx)) | (apply dr_gf; (focus exact xx); (focus first | exact .inl rfl | exact .inr rfl); focus (first | exact InD.no | (apply InD.so; (focus exact xx)))) | (apply dr_v; focus (apply DV.mk; (focus exact RF.mk rfl); (focus exact RF.mk rfl); (focus exact RF.mk rfl); (focus exact RF.mk rfl); (focus exact xx); focus (first | exact InD.no | (apply InD.so; (focus exact xx))))) | (apply dr_ve; focus (apply DVE.mk; (focus exact RF.mk rfl); (focus exact RF.mk rfl); (focus exact RF.mk rfl); (focus exact xx); focus (first | exact InD.no | (apply InD.so; (focus exact xx))))) | (apply dr_r; focus (apply DL.mk; (focus exact RF.mk rfl); (focus exact xx); (focus exact xx); focus (first | exact InD.no | (apply InD.so; (focus exact xx))))) | (apply dr_l; (focus exact RF.mk rfl); (focus exact RF.mk rfl); (focus exact RF.mk rfl); (focus exact RF.mk rfl); (focus exact RF.mk rfl)) | (apply dr_e; (focus exact RF.mk rfl); (focus exact RF.mk rfl); (focus exact RF.mk rfl); (focus exact RF.mk rfl)) | (apply rd_e; (focus exact xx); focus (repeat first | exact PO.nil | apply PO.zero | (apply PO.ld; (focus exact xx)))) | (apply rd_l; (focus exact xx)) | refine wh_seq ?_ | refine wh_skip ?_ | refine wh_block ?_ | refine wh_end ?_ | refine wh_exit ?_ | refine wh_ret ?_ | refine bk_norm ?_ | refine bk_exit ?_ | refine bk_ret ?_ | refine fr_exit ?_ | refine fr_ret ?_ | refine lp_exit ?_ | refine lp_ret ?_ | refine jn_exit ?_ | refine jn_ret ?_ | refine bk_other rfl ?_ | (apply wr; focus exact xx) | refine wh_reg ?_ | refine wh_ife ?_ | (apply re; focus exact xx) | (apply ra; (focus exact xx); (focus exact xx); intro _) | (apply r1; (focus exact xx); (focus exact xx); intro _) | (apply rl; (focus exact xx); (focus exact xx); intro _) | (apply rb; (focus exact xx); (focus exact xx); intro _) | (apply rsi; (focus exact xx); (focus exact xx); all_goals try infer_instance) | (apply rsz; (focus exact xx); (focus exact xx); all_goals try infer_instance) | (apply rt; (focus exact xx); (focus exact xx)) | (apply rso; (focus exact xx); (focus exact xx); all_goals try infer_instance) | (apply rmm; (focus exact xx); intro _) | (apply rsb; (focus exact xx); (focus exact xx)) | (apply ru; (focus exact xx); (focus exact xx)) | (apply rm; (focus exact xx); (focus exact xx); intro _) | (apply rk; (focus exact xx); (focus exact xx); intro _) | (apply rcf; (focus exact xx); (focus (apply ACF.mk; (focus exact xx); (focus exact inferInstance); (focus exact xx); (focus exact inferInstance); (focus exact xx); (focus exact rfl)))) | (apply rco; (focus exact xx); (focus (apply ACO.mk; (focus exact xx); (focus exact xx); (focus exact inferInstance); (focus exact xx); (focus exact xx))); intro _) | (apply rc; (focus exact xx); (focus exact xx)) | (apply rk'; (focus exact xx); (focus exact xx))
  ((first | apply wi | apply rf); (focus exact xx); (focus exact xx); all_goals intro _)
  · rename_i h
    rw [take_yes h]
    refine wn 3 true ?_
    repeat' first | (apply dr_fin; (focus exact xx)) | (apply dr_gt; (focus exact xx)) | (apply dr_gf; (focus exact xx); (focus first | exact .inl rfl | exact .inr rfl); focus (first | exact InD.no | (apply InD.so; (focus exact xx)))) | (apply dr_v; focus (apply DV.mk; (focus exact RF.mk rfl); (focus exact RF.mk rfl); (focus exact RF.mk rfl); (focus exact RF.mk rfl); (focus exact xx); focus (first | exact InD.no | (apply InD.so; (focus exact xx))))) | (apply dr_ve; focus (apply DVE.mk; (focus exact RF.mk rfl); (focus exact RF.mk rfl); (focus exact RF.mk rfl); (focus exact xx); focus (first | exact InD.no | (apply InD.so; (focus exact xx))))) | (apply dr_r; focus (apply DL.mk; (focus exact RF.mk rfl); (focus exact xx); (focus exact xx); focus (first | exact InD.no | (apply InD.so; (focus exact xx))))) | (apply dr_l; (focus exact RF.mk rfl); (focus exact RF.mk rfl); (focus exact RF.mk rfl); (focus exact RF.mk rfl); (focus exact RF.mk rfl)) | (apply dr_e; (focus exact RF.mk rfl); (focus exact RF.mk rfl); (focus exact RF.mk rfl); (focus exact RF.mk rfl)) | (apply rd_e; (focus exact xx); focus (repeat first | exact PO.nil | apply PO.zero | (apply PO.ld; (focus exact xx)))) | (apply rd_l; (focus exact xx)) | refine wh_seq ?_ | refine wh_skip ?_ | refine wh_block ?_ | refine wh_end ?_ | refine wh_exit ?_ | refine wh_ret ?_ | refine bk_norm ?_ | refine bk_exit ?_ | refine bk_ret ?_ | refine fr_exit ?_ | refine fr_ret ?_ | refine lp_exit ?_ | refine lp_ret ?_ | refine jn_exit ?_ | refine jn_ret ?_ | refine bk_other rfl ?_ | (apply wr; focus exact xx) | (apply wi; (focus exact xx); (focus exact xx); all_goals intro _; all_goals try first | contradiction | (exfalso; omega) | exact absurd trivial ‹_›) | refine wh_reg ?_ | refine wh_ife ?_ | (apply re; focus exact xx) | (apply rf; (focus exact xx); (focus exact xx); all_goals intro _; all_goals try first | contradiction | (exfalso; omega) | exact absurd trivial ‹_›) | (apply ra; (focus exact xx); (focus exact xx); intro _) | (apply r1; (focus exact xx); (focus exact xx); intro _) | (apply rl; (focus exact xx); (focus exact xx); intro _) | (apply rb; (focus exact xx); (focus exact xx); intro _) | (apply rsi; (focus exact xx); (focus exact xx); all_goals try infer_instance) | (apply rsz; (focus exact xx); (focus exact xx); all_goals try infer_instance) | (apply rt; (focus exact xx); (focus exact xx)) | (apply rso; (focus exact xx); (focus exact xx); all_goals try infer_instance) | (apply rmm; (focus exact xx); intro _) | (apply rsb; (focus exact xx); (focus exact xx)) | (apply ru; (focus exact xx); (focus exact xx)) | (apply rm; (focus exact xx); (focus exact xx); intro _) | (apply rk; (focus exact xx); (focus exact xx); intro _) | (apply rcf; (focus exact xx); (focus (apply ACF.mk; (focus exact xx); (focus exact inferInstance); (focus exact xx); (focus exact inferInstance); (focus exact xx); (focus exact rfl)))) | (apply rco; (focus exact xx); (focus (apply ACO.mk; (focus exact xx); (focus exact xx); (focus exact inferInstance); (focus exact xx); (focus exact xx))); intro _) | (apply rc; (focus exact xx); (focus exact xx)) | (apply rk'; (focus exact xx); (focus exact xx))
    refine ⟨.inr rfl, [V.nil], by exact xx, Hd.nil, rfl, ?_⟩
    rw [lineV, if_pos h, lineC, if_pos h, take_yes h]; rfl
  · rename_i h
    rw [take_no h, hat.self]
    have t2 : CEF T0 (cb id) n.read_cursor__op [.ptr id 4 0 0] c True (eOp (opV c)) (opC c) := (op_cf id c).now ⟨⟨hb1, hb2⟩, by omega⟩
    repeat' first | (apply dr_fin; (focus exact xx)) | (apply dr_gt; (focus exact xx)) | (apply dr_gf; (focus exact xx); (focus first | exact .inl rfl | exact .inr rfl); focus (first | exact InD.no | (apply InD.so; (focus exact xx)))) | (apply dr_v; focus (apply DV.mk; (focus exact RF.mk rfl); (focus exact RF.mk rfl); (focus exact RF.mk rfl); (focus exact RF.mk rfl); (focus exact xx); focus (first | exact InD.no | (apply InD.so; (focus exact xx))))) | (apply dr_ve; focus (apply DVE.mk; (focus exact RF.mk rfl); (focus exact RF.mk rfl); (focus exact RF.mk rfl); (focus exact xx); focus (first | exact InD.no | (apply InD.so; (focus exact xx))))) | (apply dr_r; focus (apply DL.mk; (focus exact RF.mk rfl); (focus exact xx); (focus exact xx); focus (first | exact InD.no | (apply InD.so; (focus exact xx))))) | (apply dr_l; (focus exact RF.mk rfl); (focus exact RF.mk rfl); (focus exact RF.mk rfl); (focus exact RF.mk rfl); (focus exact RF.mk rfl)) | (apply dr_e; (focus exact RF.mk rfl); (focus exact RF.mk rfl); (focus exact RF.mk rfl); (focus exact RF.mk rfl)) | (apply rd_e; (focus exact xx); focus (repeat first | exact PO.nil | apply PO.zero | (apply PO.ld; (focus exact xx)))) | (apply rd_l; (focus exact xx)) | refine wh_seq ?_ | refine wh_skip ?_ | refine wh_block ?_ | refine wh_end ?_ | refine wh_exit ?_ | refine wh_ret ?_ | refine bk_norm ?_ | refine bk_exit ?_ | refine bk_ret ?_ | refine fr_exit ?_ | refine fr_ret ?_ | refine lp_exit ?_ | refine lp_ret ?_ | refine jn_exit ?_ | refine jn_ret ?_ | refine bk_other rfl ?_ | (apply wr; focus exact xx) | (apply wi; (focus exact xx); (focus exact xx); all_goals intro _; all_goals try first | contradiction | (exfalso; omega) | exact absurd trivial ‹_›) | refine wh_reg ?_ | refine wh_ife ?_ | (apply re; focus exact xx) | (apply rf; (focus exact xx); (focus exact xx); all_goals intro _; all_goals try first | contradiction | (exfalso; omega) | exact absurd trivial ‹_›) | (apply ra; (focus exact xx); (focus exact xx); intro _) | (apply r1; (focus exact xx); (focus exact xx); intro _) | (apply rl; (focus exact xx); (focus exact xx); intro _) | (apply rb; (focus exact xx); (focus exact xx); intro _) | (apply rsi; (focus exact xx); (focus exact xx); all_goals try infer_instance) | (apply rsz; (focus exact xx); (focus exact xx); all_goals try infer_instance) | (apply rt; (focus exact xx); (focus exact xx)) | (apply rso; (focus exact xx); (focus exact xx); all_goals try infer_instance) | (apply rmm; (focus exact xx); intro _) | (apply rsb; (focus exact xx); (focus exact xx)) | (apply ru; (focus exact xx); (focus exact xx)) | (apply rm; (focus exact xx); (focus exact xx); intro _) | (apply rk; (focus exact xx); (focus exact xx); intro _) | (apply rcf; (focus exact xx); (focus (apply ACF.mk; (focus exact xx); (focus exact inferInstance); (focus exact xx); (focus exact inferInstance); (focus exact xx); (focus exact rfl)))) | (apply rco; (focus exact xx); (focus (apply ACO.mk; (focus exact xx); (focus exact xx); (focus exact inferInstance); (focus exact xx); (focus exact xx))); intro _) | (apply rc; (focus exact xx); (focus exact xx)) | (apply rk'; (focus exact xx); (focus exact xx))
    rename_i g0
    have h1 := op_at c
    obtain ⟨h2, h3⟩ := op_cs c
    refine wh_loop (fun m A L => ∃ (xs : List Op) (c1 : Cur) (g : Hd), okCu c1 ∧ c1.s = c.s ∧ c1.ops ≤ c1.at' + 1 ∧ c1.s.length - c1.at' ≤ m ∧ xs.length ≤ c1.at' + 1 ∧ lineV c = xs ++ (moreC m c1).1 ∧ lineC c = mustC (moreC m c1).2 10 ∧ A = [(0, .ptr id 4 0 0), (3, g.v)] ∧ L = .own g 3 true (xs.map eOp) :: C (cb id c1)) c.s.length ⟨[opV c], opC c, g0, opC_ok ⟨hb1, hb2⟩, h2, by omega, by rw [h2]; omega, by simp, by rw [lineV, if_neg h, List.singleton_append], by rw [lineC, if_neg h], rfl, rfl⟩ ?_
    rintro m A L' ⟨xs, c1, g, ⟨ok1, ok2⟩, hs1, ho1, hm1, hx1, hV, hC, rfl, rfl⟩
    have t3 : CEF T0 (cb id) n.read_cursor__take [.ptr id 4 0 0, .int .u8 32] c1 True (.bool (seesC c1 32)) (takeC c1 32) := (take_cf id c1 32).now (by omega)
    repeat' first | (apply dr_fin; (focus exact xx)) | (apply dr_gt; (focus exact xx)) | (apply dr_gf; (focus exact xx); (focus first | exact .inl rfl | exact .inr rfl); focus (first | exact InD.no | (apply InD.so; (focus exact xx)))) | (apply dr_v; focus (apply DV.mk; (focus exact RF.mk rfl); (focus exact RF.mk rfl); (focus exact RF.mk rfl); (focus exact RF.mk rfl); (focus exact xx); focus (first | exact InD.no | (apply InD.so; (focus exact xx))))) | (apply dr_ve; focus (apply DVE.mk; (focus exact RF.mk rfl); (focus exact RF.mk rfl); (focus exact RF.mk rfl); (focus exact xx); focus (first | exact InD.no | (apply InD.so; (focus exact xx))))) | (apply dr_r; focus (apply DL.mk; (focus exact RF.mk rfl); (focus exact xx); (focus exact xx); focus (first | exact InD.no | (apply InD.so; (focus exact xx))))) | (apply dr_l; (focus exact RF.mk rfl); (focus exact RF.mk rfl); (focus exact RF.mk rfl); (focus exact RF.mk rfl); (focus exact RF.mk rfl)) | (apply dr_e; (focus exact RF.mk rfl); (focus exact RF.mk rfl); (focus exact RF.mk rfl); (focus exact RF.mk rfl)) | (apply rd_e; (focus exact xx); focus (repeat first | exact PO.nil | apply PO.zero | (apply PO.ld; (focus exact xx)))) | (apply rd_l; (focus exact xx)) | refine wh_seq ?_ | refine wh_skip ?_ | refine wh_block ?_ | refine wh_end ?_ | refine wh_exit ?_ | refine wh_ret ?_ | refine bk_norm ?_ | refine bk_exit ?_ | refine bk_ret ?_ | refine fr_exit ?_ | refine fr_ret ?_ | refine lp_exit ?_ | refine lp_ret ?_ | refine jn_exit ?_ | refine jn_ret ?_ | refine bk_other rfl ?_ | (apply wr; focus exact xx) | refine wh_reg ?_ | refine wh_ife ?_ | (apply re; focus exact xx) | (apply ra; (focus exact xx); (focus exact xx); intro _) | (apply r1; (focus exact xx); (focus exact xx); intro _) | (apply rl; (focus exact xx); (focus exact xx); intro _) | (apply rb; (focus exact xx); (focus exact xx); intro _) | (apply rsi; (focus exact xx); (focus exact xx); all_goals try infer_instance) | (apply rsz; (focus exact xx); (focus exact xx); all_goals try infer_instance) | (apply rt; (focus exact xx); (focus exact xx)) | (apply rso; (focus exact xx); (focus exact xx); all_goals try infer_instance) | (apply rmm; (focus exact xx); intro _) | (apply rsb; (focus exact xx); (focus exact xx)) | (apply ru; (focus exact xx); (focus exact xx)) | (apply rm; (focus exact xx); (focus exact xx); intro _) | (apply rk; (focus exact xx); (focus exact xx); intro _) | (apply rcf; (focus exact xx); (focus (apply ACF.mk; (focus exact xx); (focus exact inferInstance); (focus exact xx); (focus exact inferInstance); (focus exact xx); (focus exact rfl)))) | (apply rco; (focus exact xx); (focus (apply ACO.mk; (focus exact xx); (focus exact xx); (focus exact inferInstance); (focus exact xx); (focus exact xx))); intro _) | (apply rc; (focus exact xx); (focus exact xx)) | (apply rk'; (focus exact xx); (focus exact xx))
    ((first | apply wi | apply rf); (focus exact xx); (focus exact xx); all_goals intro _)
    · rename_i hk
      obtain ⟨hk1, hk2, hk3⟩ := sees_lt hk
      have h4 := take_yes hk
      have h5 : okCu (takeC c1 32) := take_ok ⟨ok1, ok2⟩
      have h6 : (takeC c1 32).at' = c1.at' + 1 ∧ (takeC c1 32).ops = c1.ops ∧ (takeC c1 32).s = c1.s := by rw [h4]; exact ⟨rfl, rfl, rfl⟩
      have t4 : CEF T0 (cb id) n.read_cursor__op [.ptr id 4 0 0] (takeC c1 32) True (eOp (opV (takeC c1 32))) (opC (takeC c1 32)) := (op_cf id (takeC c1 32)).now ⟨h5, by omega⟩
      obtain ⟨k, rfl⟩ : ∃ k, m = k + 1 := ⟨m - 1, by omega⟩
      have h7 := op_at (takeC c1 32)
      obtain ⟨h8, h9⟩ := op_cs (takeC c1 32)
      rw [moreC, if_pos hk] at hV hC
      repeat' first | (apply dr_fin; (focus exact xx)) | (apply dr_gt; (focus exact xx)) | (apply dr_gf; (focus exact xx); (focus first | exact .inl rfl | exact .inr rfl); focus (first | exact InD.no | (apply InD.so; (focus exact xx)))) | (apply dr_v; focus (apply DV.mk; (focus exact RF.mk rfl); (focus exact RF.mk rfl); (focus exact RF.mk rfl); (focus exact RF.mk rfl); (focus exact xx); focus (first | exact InD.no | (apply InD.so; (focus exact xx))))) | (apply dr_ve; focus (apply DVE.mk; (focus exact RF.mk rfl); (focus exact RF.mk rfl); (focus exact RF.mk rfl); (focus exact xx); focus (first | exact InD.no | (apply InD.so; (focus exact xx))))) | (apply dr_r; focus (apply DL.mk; (focus exact RF.mk rfl); (focus exact xx); (focus exact xx); focus (first | exact InD.no | (apply InD.so; (focus exact xx))))) | (apply dr_l; (focus exact RF.mk rfl); (focus exact RF.mk rfl); (focus exact RF.mk rfl); (focus exact RF.mk rfl); (focus exact RF.mk rfl)) | (apply dr_e; (focus exact RF.mk rfl); (focus exact RF.mk rfl); (focus exact RF.mk rfl); (focus exact RF.mk rfl)) | (apply rd_e; (focus exact xx); focus (repeat first | exact PO.nil | apply PO.zero | (apply PO.ld; (focus exact xx)))) | (apply rd_l; (focus exact xx)) | refine wh_seq ?_ | refine wh_skip ?_ | refine wh_block ?_ | refine wh_end ?_ | refine wh_exit ?_ | refine wh_ret ?_ | refine bk_norm ?_ | refine bk_exit ?_ | refine bk_ret ?_ | refine fr_exit ?_ | refine fr_ret ?_ | refine lp_exit ?_ | refine lp_ret ?_ | refine jn_exit ?_ | refine jn_ret ?_ | refine bk_other rfl ?_ | (apply wr; focus exact xx) | (apply wi; (focus exact xx); (focus exact xx); all_goals intro _; all_goals try first | contradiction | (exfalso; omega) | exact absurd trivial ‹_›) | refine wh_reg ?_ | refine wh_ife ?_ | (apply re; focus exact xx) | (apply rf; (focus exact xx); (focus exact xx); all_goals intro _; all_goals try first | contradiction | (exfalso; omega) | exact absurd trivial ‹_›) | (apply ra; (focus exact xx); (focus exact xx); intro _) | (apply r1; (focus exact xx); (focus exact xx); intro _) | (apply rl; (focus exact xx); (focus exact xx); intro _) | (apply rb; (focus exact xx); (focus exact xx); intro _) | (apply rsi; (focus exact xx); (focus exact xx); all_goals try infer_instance) | (apply rsz; (focus exact xx); (focus exact xx); all_goals try infer_instance) | (apply rt; (focus exact xx); (focus exact xx)) | (apply rso; (focus exact xx); (focus exact xx); all_goals try infer_instance) | (apply rmm; (focus exact xx); intro _) | (apply rsb; (focus exact xx); (focus exact xx)) | (apply ru; (focus exact xx); (focus exact xx)) | (apply rm; (focus exact xx); (focus exact xx); intro _) | (apply rk; (focus exact xx); (focus exact xx); intro _) | (apply rcf; (focus exact xx); (focus (apply ACF.mk; (focus exact xx); (focus exact inferInstance); (focus exact xx); (focus exact inferInstance); (focus exact xx); (focus exact rfl)))) | (apply rco; (focus exact xx); (focus (apply ACO.mk; (focus exact xx); (focus exact xx); (focus exact inferInstance); (focus exact xx); (focus exact xx))); intro _) | (apply rc; (focus exact xx); (focus exact xx)) | (apply rk'; (focus exact xx); (focus exact xx))
      refine ⟨k, _, Nat.lt_succ_self _, ?_, xs ++ [opV (takeC c1 32)], opC (takeC c1 32), _, opC_ok h5, by rw [h8, h6.2.2, hs1], by omega, by rw [h8, h6.2.2]; omega, by simp; omega, by rw [hV]; simp, hC, rfl, rfl⟩
      rw [List.map_append]
      exact .of (.cons _ (List.Sublist.refl _))
    · rename_i hk
      rw [take_no hk]
      have hM : moreC m c1 = ([], c1) := by
        cases m with
        | zero => rfl
        | succ m => rw [moreC, if_neg hk]
      rw [hM] at hV hC
      have t5 : CEF T0 (cb id) n.read_cursor__must [.ptr id 4 0 0, .int .u8 10] c1 True (.tup []) (mustC c1 10) := (must_cf id c1 10).now (by omega)
      repeat' first | (apply dr_fin; (focus exact xx)) | (apply dr_gt; (focus exact xx)) | (apply dr_gf; (focus exact xx); (focus first | exact .inl rfl | exact .inr rfl); focus (first | exact InD.no | (apply InD.so; (focus exact xx)))) | (apply dr_v; focus (apply DV.mk; (focus exact RF.mk rfl); (focus exact RF.mk rfl); (focus exact RF.mk rfl); (focus exact RF.mk rfl); (focus exact xx); focus (first | exact InD.no | (apply InD.so; (focus exact xx))))) | (apply dr_ve; focus (apply DVE.mk; (focus exact RF.mk rfl); (focus exact RF.mk rfl); (focus exact RF.mk rfl); (focus exact xx); focus (first | exact InD.no | (apply InD.so; (focus exact xx))))) | (apply dr_r; focus (apply DL.mk; (focus exact RF.mk rfl); (focus exact xx); (focus exact xx); focus (first | exact InD.no | (apply InD.so; (focus exact xx))))) | (apply dr_l; (focus exact RF.mk rfl); (focus exact RF.mk rfl); (focus exact RF.mk rfl); (focus exact RF.mk rfl); (focus exact RF.mk rfl)) | (apply dr_e; (focus exact RF.mk rfl); (focus exact RF.mk rfl); (focus exact RF.mk rfl); (focus exact RF.mk rfl)) | (apply rd_e; (focus exact xx); focus (repeat first | exact PO.nil | apply PO.zero | (apply PO.ld; (focus exact xx)))) | (apply rd_l; (focus exact xx)) | refine wh_seq ?_ | refine wh_skip ?_ | refine wh_block ?_ | refine wh_end ?_ | refine wh_exit ?_ | refine wh_ret ?_ | refine bk_norm ?_ | refine bk_exit ?_ | refine bk_ret ?_ | refine fr_exit ?_ | refine fr_ret ?_ | refine lp_exit ?_ | refine lp_ret ?_ | refine jn_exit ?_ | refine jn_ret ?_ | refine bk_other rfl ?_ | (apply wr; focus exact xx) | (apply wi; (focus exact xx); (focus exact xx); all_goals intro _; all_goals try first | contradiction | (exfalso; omega) | exact absurd trivial ‹_›) | refine wh_reg ?_ | refine wh_ife ?_ | (apply re; focus exact xx) | (apply rf; (focus exact xx); (focus exact xx); all_goals intro _; all_goals try first | contradiction | (exfalso; omega) | exact absurd trivial ‹_›) | (apply ra; (focus exact xx); (focus exact xx); intro _) | (apply r1; (focus exact xx); (focus exact xx); intro _) | (apply rl; (focus exact xx); (focus exact xx); intro _) | (apply rb; (focus exact xx); (focus exact xx); intro _) | (apply rsi; (focus exact xx); (focus exact xx); all_goals try infer_instance) | (apply rsz; (focus exact xx); (focus exact xx); all_goals try infer_instance) | (apply rt; (focus exact xx); (focus exact xx)) | (apply rso; (focus exact xx); (focus exact xx); all_goals try infer_instance) | (apply rmm; (focus exact xx); intro _) | (apply rsb; (focus exact xx); (focus exact xx)) | (apply ru; (focus exact xx); (focus exact xx)) | (apply rm; (focus exact xx); (focus exact xx); intro _) | (apply rk; (focus exact xx); (focus exact xx); intro _) | (apply rcf; (focus exact xx); (focus (apply ACF.mk; (focus exact xx); (focus exact inferInstance); (focus exact xx); (focus exact inferInstance); (focus exact xx); (focus exact rfl)))) | (apply rco; (focus exact xx); (focus (apply ACO.mk; (focus exact xx); (focus exact xx); (focus exact inferInstance); (focus exact xx); (focus exact xx))); intro _) | (apply rc; (focus exact xx); (focus exact xx)) | (apply rk'; (focus exact xx); (focus exact xx))
      refine ⟨.inr rfl, [Hd.v g], by exact xx, g, rfl, ?_⟩
      rw [hV, hC, List.append_nil]
end Go.AM

set_option linter.unusedVariables false
set_option linter.unusedSimpArgs false
namespace Go.AM
attribute [-simp] List.length_flatten List.map_flatten List.map_take List.map_map List.flatten_append
/-- A history's text, read. -/
def textC : Nat → Cur → List (List Op) × Cur
  | 0, c => ([], c)
  | k + 1, c => if c.e = 0 ∧ c.at' < c.s.length then (lineV c :: (textC k (lineC c)).1, (textC k (lineC c)).2) else ([], c)
def readT (s : List UInt8) : List (List Op) × Cur := textC s.length ⟨s, 0, 0, 0⟩
def readV (s : List UInt8) : V := if (readT s).2.e = 0 then .tup [eH (readT s).1, .int .i64 0, .int .i64 0] else .tup [eH [], .int .i64 ((readT s).2.at' : Nat), .int .i64 (readT s).2.e]
theorem pm_end {P R : List HE} {e : HE} : List.Perm (e :: (P ++ R)) (P ++ (R ++ [e])) := by
  rw [← List.append_assoc]; exact (List.perm_append_singleton _ _).symm
set_option maxHeartbeats 4000000 in
instance read_Text (s : List UInt8) : PCon T0 n.read_Text [.str s] true (s.length ≤ 1048576) (readV s) := ⟨fun hb => by
  refine pc tabOk ?_
  refine wn 1 false ?_
  repeat' first | (apply dr_fin; (focus exact xx)) | (apply dr_gt; (focus exact xx)) | (apply dr_gf; (focus exact xx); (focus first | exact .inl rfl | exact .inr rfl); focus (first | exact InD.no | (apply InD.so; (focus exact xx)))) | (apply dr_v; focus (apply DV.mk; (focus exact RF.mk rfl); (focus exact RF.mk rfl); (focus exact RF.mk rfl); (focus exact RF.mk rfl); (focus exact xx); focus (first | exact InD.no | (apply InD.so; (focus exact xx))))) | (apply dr_ve; focus (apply DVE.mk; (focus exact RF.mk rfl); (focus exact RF.mk rfl); (focus exact RF.mk rfl); (focus exact xx); focus (first | exact InD.no | (apply InD.so; (focus exact xx))))) | (apply dr_r; focus (apply DL.mk; (focus exact RF.mk rfl); (focus exact xx); (focus exact xx); focus (first | exact InD.no | (apply InD.so; (focus exact xx))))) | (apply dr_l; (focus exact RF.mk rfl); (focus exact RF.mk rfl); (focus exact RF.mk rfl); (focus exact RF.mk rfl); (focus exact RF.mk rfl)) | (apply dr_e; (focus exact RF.mk rfl); (focus exact RF.mk rfl); (focus exact RF.mk rfl); (focus exact RF.mk rfl)) | (apply rd_e; (focus exact xx); focus (repeat first | exact PO.nil | apply PO.zero | (apply PO.ld; (focus exact xx)))) | (apply rd_l; (focus exact xx)) | refine wh_seq ?_ | refine wh_skip ?_ | refine wh_block ?_ | refine wh_end ?_ | refine wh_exit ?_ | refine wh_ret ?_ | refine bk_norm ?_ | refine bk_exit ?_ | refine bk_ret ?_ | refine fr_exit ?_ | refine fr_ret ?_ | refine lp_exit ?_ | refine lp_ret ?_ | refine jn_exit ?_ | refine jn_ret ?_ | refine bk_other rfl ?_ | (apply wr; focus exact xx) | (apply wi; (focus exact xx); (focus exact xx); all_goals intro _; all_goals try first | contradiction | (exfalso; omega) | exact absurd trivial ‹_›) | refine wh_reg ?_ | refine wh_ife ?_ | (apply re; focus exact xx) | (apply rf; (focus exact xx); (focus exact xx); all_goals intro _; all_goals try first | contradiction | (exfalso; omega) | exact absurd trivial ‹_›) | (apply ra; (focus exact xx); (focus exact xx); intro _) | (apply r1; (focus exact xx); (focus exact xx); intro _) | (apply rl; (focus exact xx); (focus exact xx); intro _) | (apply rb; (focus exact xx); (focus exact xx); intro _) | (apply rsi; (focus exact xx); (focus exact xx); all_goals try infer_instance) | (apply rsz; (focus exact xx); (focus exact xx); all_goals try infer_instance) | (apply rt; (focus exact xx); (focus exact xx)) | (apply rso; (focus exact xx); (focus exact xx); all_goals try infer_instance) | (apply rmm; (focus exact xx); intro _) | (apply rsb; (focus exact xx); (focus exact xx)) | (apply ru; (focus exact xx); (focus exact xx)) | (apply rm; (focus exact xx); (focus exact xx); intro _) | (apply rk; (focus exact xx); (focus exact xx); intro _) | (apply rcf; (focus exact xx); (focus (apply ACF.mk; (focus exact xx); (focus exact inferInstance); (focus exact xx); (focus exact inferInstance); (focus exact xx); (focus exact rfl)))) | (apply rco; (focus exact xx); (focus (apply ACO.mk; (focus exact xx); (focus exact xx); (focus exact inferInstance); (focus exact xx); (focus exact xx))); intro _) | (apply rc; (focus exact xx); (focus exact xx)) | (apply rk'; (focus exact xx); (focus exact xx))
  rename_i id
  refine wh_loop (fun m A L => ∃ (es : List (NE Op)) (c : Cur) (g : Hd), c.s = s ∧ (c.e = 0 → okL c ∧ s.length - c.at' ≤ m) ∧ es.length + m = s.length ∧ readT s = (es.map NE.c ++ (textC m c).1, (textC m c).2) ∧ A = [(0, .str s), (5, .ptr id 4 0 0), (6, g.v)] ∧ L = cb id c :: .own g 1 false (es.map (NE.v eOp)) :: rows 3 true eOp es) s.length ⟨[], ⟨s, 0, 0, 0⟩, .nil, rfl, fun _ => ⟨⟨⟨Nat.zero_le _, hb⟩, Nat.le_refl _⟩, Nat.le_refl _⟩, by simp, by simp [readT], rfl, rfl⟩ ?_
  rintro m A L ⟨es, c, g, hs, hok, hm, hR, rfl, rfl⟩
  repeat' first | (apply dr_fin; (focus exact xx)) | (apply dr_gt; (focus exact xx)) | (apply dr_gf; (focus exact xx); (focus first | exact .inl rfl | exact .inr rfl); focus (first | exact InD.no | (apply InD.so; (focus exact xx)))) | (apply dr_v; focus (apply DV.mk; (focus exact RF.mk rfl); (focus exact RF.mk rfl); (focus exact RF.mk rfl); (focus exact RF.mk rfl); (focus exact xx); focus (first | exact InD.no | (apply InD.so; (focus exact xx))))) | (apply dr_ve; focus (apply DVE.mk; (focus exact RF.mk rfl); (focus exact RF.mk rfl); (focus exact RF.mk rfl); (focus exact xx); focus (first | exact InD.no | (apply InD.so; (focus exact xx))))) | (apply dr_r; focus (apply DL.mk; (focus exact RF.mk rfl); (focus exact xx); (focus exact xx); focus (first | exact InD.no | (apply InD.so; (focus exact xx))))) | (apply dr_l; (focus exact RF.mk rfl); (focus exact RF.mk rfl); (focus exact RF.mk rfl); (focus exact RF.mk rfl); (focus exact RF.mk rfl)) | (apply dr_e; (focus exact RF.mk rfl); (focus exact RF.mk rfl); (focus exact RF.mk rfl); (focus exact RF.mk rfl)) | (apply rd_e; (focus exact xx); focus (repeat first | exact PO.nil | apply PO.zero | (apply PO.ld; (focus exact xx)))) | (apply rd_l; (focus exact xx)) | refine wh_seq ?_ | refine wh_skip ?_ | refine wh_block ?_ | refine wh_end ?_ | refine wh_exit ?_ | refine wh_ret ?_ | refine bk_norm ?_ | refine bk_exit ?_ | refine bk_ret ?_ | refine fr_exit ?_ | refine fr_ret ?_ | refine lp_exit ?_ | refine lp_ret ?_ | refine jn_exit ?_ | refine jn_ret ?_ | refine bk_other rfl ?_ | (apply wr; focus exact xx) | refine wh_reg ?_ | refine wh_ife ?_ | (apply re; focus exact xx) | (apply ra; (focus exact xx); (focus exact xx); intro _) | (apply r1; (focus exact xx); (focus exact xx); intro _) | (apply rl; (focus exact xx); (focus exact xx); intro _) | (apply rb; (focus exact xx); (focus exact xx); intro _) | (apply rsi; (focus exact xx); (focus exact xx); all_goals try infer_instance) | (apply rsz; (focus exact xx); (focus exact xx); all_goals try infer_instance) | (apply rt; (focus exact xx); (focus exact xx)) | (apply rso; (focus exact xx); (focus exact xx); all_goals try infer_instance) | (apply rmm; (focus exact xx); intro _) | (apply rsb; (focus exact xx); (focus exact xx)) | (apply ru; (focus exact xx); (focus exact xx)) | (apply rm; (focus exact xx); (focus exact xx); intro _) | (apply rk; (focus exact xx); (focus exact xx); intro _) | (apply rcf; (focus exact xx); (focus (apply ACF.mk; (focus exact xx); (focus exact inferInstance); (focus exact xx); (focus exact inferInstance); (focus exact xx); (focus exact rfl)))) | (apply rco; (focus exact xx); (focus (apply ACO.mk; (focus exact xx); (focus exact xx); (focus exact inferInstance); (focus exact xx); (focus exact xx))); intro _) | (apply rc; (focus exact xx); (focus exact xx)) | (apply rk'; (focus exact xx); (focus exact xx))
  ((first | apply wi | apply rf); (focus exact xx); (focus exact xx); all_goals intro _)
  · rename_i h
    obtain ⟨he, hlt⟩ := h
    obtain ⟨ok, hm2⟩ := hok he
    obtain ⟨k, rfl⟩ : ∃ k, m = k + 1 := ⟨m - 1, by omega⟩
    rw [textC, if_pos ⟨he, by rw [hs]; omega⟩] at hR
    repeat' first | (apply dr_fin; (focus exact xx)) | (apply dr_gt; (focus exact xx)) | (apply dr_gf; (focus exact xx); (focus first | exact .inl rfl | exact .inr rfl); focus (first | exact InD.no | (apply InD.so; (focus exact xx)))) | (apply dr_v; focus (apply DV.mk; (focus exact RF.mk rfl); (focus exact RF.mk rfl); (focus exact RF.mk rfl); (focus exact RF.mk rfl); (focus exact xx); focus (first | exact InD.no | (apply InD.so; (focus exact xx))))) | (apply dr_ve; focus (apply DVE.mk; (focus exact RF.mk rfl); (focus exact RF.mk rfl); (focus exact RF.mk rfl); (focus exact xx); focus (first | exact InD.no | (apply InD.so; (focus exact xx))))) | (apply dr_r; focus (apply DL.mk; (focus exact RF.mk rfl); (focus exact xx); (focus exact xx); focus (first | exact InD.no | (apply InD.so; (focus exact xx))))) | (apply dr_l; (focus exact RF.mk rfl); (focus exact RF.mk rfl); (focus exact RF.mk rfl); (focus exact RF.mk rfl); (focus exact RF.mk rfl)) | (apply dr_e; (focus exact RF.mk rfl); (focus exact RF.mk rfl); (focus exact RF.mk rfl); (focus exact RF.mk rfl)) | (apply rd_e; (focus exact xx); focus (repeat first | exact PO.nil | apply PO.zero | (apply PO.ld; (focus exact xx)))) | (apply rd_l; (focus exact xx)) | refine wh_seq ?_ | refine wh_skip ?_ | refine wh_block ?_ | refine wh_end ?_ | refine wh_exit ?_ | refine wh_ret ?_ | refine bk_norm ?_ | refine bk_exit ?_ | refine bk_ret ?_ | refine fr_exit ?_ | refine fr_ret ?_ | refine lp_exit ?_ | refine lp_ret ?_ | refine jn_exit ?_ | refine jn_ret ?_ | refine bk_other rfl ?_ | (apply wr; focus exact xx) | refine wh_reg ?_ | refine wh_ife ?_ | (apply re; focus exact xx) | (apply ra; (focus exact xx); (focus exact xx); intro _) | (apply r1; (focus exact xx); (focus exact xx); intro _) | (apply rl; (focus exact xx); (focus exact xx); intro _) | (apply rb; (focus exact xx); (focus exact xx); intro _) | (apply rsi; (focus exact xx); (focus exact xx); all_goals try infer_instance) | (apply rsz; (focus exact xx); (focus exact xx); all_goals try infer_instance) | (apply rt; (focus exact xx); (focus exact xx)) | (apply rso; (focus exact xx); (focus exact xx); all_goals try infer_instance) | (apply rmm; (focus exact xx); intro _) | (apply rsb; (focus exact xx); (focus exact xx)) | (apply ru; (focus exact xx); (focus exact xx)) | (apply rm; (focus exact xx); (focus exact xx); intro _) | (apply rk; (focus exact xx); (focus exact xx); intro _) | (apply rcf; (focus exact xx); (focus (apply ACF.mk; (focus exact xx); (focus exact inferInstance); (focus exact xx); (focus exact inferInstance); (focus exact xx); (focus exact rfl)))) | (apply rco; (focus exact xx); (focus (apply ACO.mk; (focus exact xx); (focus exact xx); (focus exact inferInstance); (focus exact xx); (focus exact xx))); intro _) | (apply rc; (focus exact xx); (focus exact xx)) | (apply rk'; (focus exact xx); (focus exact xx))
    refine rc (by exact xx) (AC.mk (by exact xx) (line_ce ok .here)) ?_
    rintro _ _ ⟨gl, rfl, rfl⟩
    repeat' first | (apply dr_fin; (focus exact xx)) | (apply dr_gt; (focus exact xx)) | (apply dr_gf; (focus exact xx); (focus first | exact .inl rfl | exact .inr rfl); focus (first | exact InD.no | (apply InD.so; (focus exact xx)))) | (apply dr_v; focus (apply DV.mk; (focus exact RF.mk rfl); (focus exact RF.mk rfl); (focus exact RF.mk rfl); (focus exact RF.mk rfl); (focus exact xx); focus (first | exact InD.no | (apply InD.so; (focus exact xx))))) | (apply dr_ve; focus (apply DVE.mk; (focus exact RF.mk rfl); (focus exact RF.mk rfl); (focus exact RF.mk rfl); (focus exact xx); focus (first | exact InD.no | (apply InD.so; (focus exact xx))))) | (apply dr_r; focus (apply DL.mk; (focus exact RF.mk rfl); (focus exact xx); (focus exact xx); focus (first | exact InD.no | (apply InD.so; (focus exact xx))))) | (apply dr_l; (focus exact RF.mk rfl); (focus exact RF.mk rfl); (focus exact RF.mk rfl); (focus exact RF.mk rfl); (focus exact RF.mk rfl)) | (apply dr_e; (focus exact RF.mk rfl); (focus exact RF.mk rfl); (focus exact RF.mk rfl); (focus exact RF.mk rfl)) | (apply rd_e; (focus exact xx); focus (repeat first | exact PO.nil | apply PO.zero | (apply PO.ld; (focus exact xx)))) | (apply rd_l; (focus exact xx)) | refine wh_seq ?_ | refine wh_skip ?_ | refine wh_block ?_ | refine wh_end ?_ | refine wh_exit ?_ | refine wh_ret ?_ | refine bk_norm ?_ | refine bk_exit ?_ | refine bk_ret ?_ | refine fr_exit ?_ | refine fr_ret ?_ | refine lp_exit ?_ | refine lp_ret ?_ | refine jn_exit ?_ | refine jn_ret ?_ | refine bk_other rfl ?_ | (apply wr; focus exact xx) | (apply wi; (focus exact xx); (focus exact xx); all_goals intro _; all_goals try first | contradiction | (exfalso; omega) | exact absurd trivial ‹_›) | refine wh_reg ?_ | refine wh_ife ?_ | (apply re; focus exact xx) | (apply rf; (focus exact xx); (focus exact xx); all_goals intro _; all_goals try first | contradiction | (exfalso; omega) | exact absurd trivial ‹_›) | (apply ra; (focus exact xx); (focus exact xx); intro _) | (apply r1; (focus exact xx); (focus exact xx); intro _) | (apply rl; (focus exact xx); (focus exact xx); intro _) | (apply rb; (focus exact xx); (focus exact xx); intro _) | (apply rsi; (focus exact xx); (focus exact xx); all_goals try infer_instance) | (apply rsz; (focus exact xx); (focus exact xx); all_goals try infer_instance) | (apply rt; (focus exact xx); (focus exact xx)) | (apply rso; (focus exact xx); (focus exact xx); all_goals try infer_instance) | (apply rmm; (focus exact xx); intro _) | (apply rsb; (focus exact xx); (focus exact xx)) | (apply ru; (focus exact xx); (focus exact xx)) | (apply rm; (focus exact xx); (focus exact xx); intro _) | (apply rk; (focus exact xx); (focus exact xx); intro _) | (apply rcf; (focus exact xx); (focus (apply ACF.mk; (focus exact xx); (focus exact inferInstance); (focus exact xx); (focus exact inferInstance); (focus exact xx); (focus exact rfl)))) | (apply rco; (focus exact xx); (focus (apply ACO.mk; (focus exact xx); (focus exact xx); (focus exact inferInstance); (focus exact xx); (focus exact xx))); intro _) | (apply rc; (focus exact xx); (focus exact xx)) | (apply rk'; (focus exact xx); (focus exact xx))
    rename_i g27 gh
    refine ⟨k, _, Nat.lt_succ_self _, ⟨_, List.drop_sublist 1 _, pm_end (P := [_, _])⟩, es ++ [.row gl (lineV c)], lineC c, gh, (line_s c).trans hs, fun h => ?_, by simp; omega, ?_, rfl, ?_⟩
    · obtain ⟨h1, h2⟩ := line_ops ok h
      exact ⟨h1, by omega⟩
    · rw [hR]; simp [NE.c]
    · simp only [rows_app, List.map_append]; rfl
  · rename_i h
    have hE : textC m c = ([], c) := by
      cases m with
      | zero => rfl
      | succ m => rw [textC, if_neg (by rw [hs]; intro h'; exact h ⟨h'.1, by omega⟩)]
    rw [hE, List.append_nil] at hR
    repeat' first | (apply dr_fin; (focus exact xx)) | (apply dr_gt; (focus exact xx)) | (apply dr_gf; (focus exact xx); (focus first | exact .inl rfl | exact .inr rfl); focus (first | exact InD.no | (apply InD.so; (focus exact xx)))) | (apply dr_v; focus (apply DV.mk; (focus exact RF.mk rfl); (focus exact RF.mk rfl); (focus exact RF.mk rfl); (focus exact RF.mk rfl); (focus exact xx); focus (first | exact InD.no | (apply InD.so; (focus exact xx))))) | (apply dr_ve; focus (apply DVE.mk; (focus exact RF.mk rfl); (focus exact RF.mk rfl); (focus exact RF.mk rfl); (focus exact xx); focus (first | exact InD.no | (apply InD.so; (focus exact xx))))) | (apply dr_r; focus (apply DL.mk; (focus exact RF.mk rfl); (focus exact xx); (focus exact xx); focus (first | exact InD.no | (apply InD.so; (focus exact xx))))) | (apply dr_l; (focus exact RF.mk rfl); (focus exact RF.mk rfl); (focus exact RF.mk rfl); (focus exact RF.mk rfl); (focus exact RF.mk rfl)) | (apply dr_e; (focus exact RF.mk rfl); (focus exact RF.mk rfl); (focus exact RF.mk rfl); (focus exact RF.mk rfl)) | (apply rd_e; (focus exact xx); focus (repeat first | exact PO.nil | apply PO.zero | (apply PO.ld; (focus exact xx)))) | (apply rd_l; (focus exact xx)) | refine wh_seq ?_ | refine wh_skip ?_ | refine wh_block ?_ | refine wh_end ?_ | refine wh_exit ?_ | refine wh_ret ?_ | refine bk_norm ?_ | refine bk_exit ?_ | refine bk_ret ?_ | refine fr_exit ?_ | refine fr_ret ?_ | refine lp_exit ?_ | refine lp_ret ?_ | refine jn_exit ?_ | refine jn_ret ?_ | refine bk_other rfl ?_ | (apply wr; focus exact xx) | (apply wi; (focus exact xx); (focus exact xx); all_goals intro _; all_goals try first | contradiction | (exfalso; omega) | exact absurd trivial ‹_›) | refine wh_reg ?_ | refine wh_ife ?_ | (apply re; focus exact xx) | (apply rf; (focus exact xx); (focus exact xx); all_goals intro _; all_goals try first | contradiction | (exfalso; omega) | exact absurd trivial ‹_›) | (apply ra; (focus exact xx); (focus exact xx); intro _) | (apply r1; (focus exact xx); (focus exact xx); intro _) | (apply rl; (focus exact xx); (focus exact xx); intro _) | (apply rb; (focus exact xx); (focus exact xx); intro _) | (apply rsi; (focus exact xx); (focus exact xx); all_goals try infer_instance) | (apply rsz; (focus exact xx); (focus exact xx); all_goals try infer_instance) | (apply rt; (focus exact xx); (focus exact xx)) | (apply rso; (focus exact xx); (focus exact xx); all_goals try infer_instance) | (apply rmm; (focus exact xx); intro _) | (apply rsb; (focus exact xx); (focus exact xx)) | (apply ru; (focus exact xx); (focus exact xx)) | (apply rm; (focus exact xx); (focus exact xx); intro _) | (apply rk; (focus exact xx); (focus exact xx); intro _) | (apply rcf; (focus exact xx); (focus (apply ACF.mk; (focus exact xx); (focus exact inferInstance); (focus exact xx); (focus exact inferInstance); (focus exact xx); (focus exact rfl)))) | (apply rco; (focus exact xx); (focus (apply ACO.mk; (focus exact xx); (focus exact xx); (focus exact inferInstance); (focus exact xx); (focus exact xx))); intro _) | (apply rc; (focus exact xx); (focus exact xx)) | (apply rk'; (focus exact xx); (focus exact xx))
    · rename_i h2
      refine fz ?_
      rw [readV, hR, if_neg h2]; rfl
    · rename_i h2
      have h2 := Decidable.not_not.1 h2
      refine fz ?_
      rw [readV, hR, if_pos h2]⟩
end Go.AM

