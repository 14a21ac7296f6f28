/- Part ZE of the proof. -/
import Derived.Test.YtbjikpplkjeaiaaDoorZD
set_option linter.unusedVariables false
set_option linter.unusedSimpArgs false
namespace Go.AM
attribute [-simp] List.length_flatten List.map_flatten List.map_take List.map_map List.flatten_append
/-! A history comes back of its facts. -/
def layP (P : List (Nat × Nat × Op)) : List (List Op) := P.foldl (fun h q => put1 h q.1 q.2.2) []
theorem layP_snoc (P : List (Nat × Nat × Op)) (q : Nat × Nat × Op) : layP (P ++ [q]) = put1 (layP P) q.1 q.2.2 := by simp [layP, List.foldl_append]
theorem item_op {P : List (Nat × Nat × Op)} {i : Nat} (hi : i < P.length) : (nth (internS P).2 i).s.toNat = (nth P i).1 ∧ opOf (internS P).1 (nth (internS P).2 i) = (nth P i).2.2 ∧ okI (internS P).1 (nth (internS P).2 i) := by
  obtain ⟨h1, h2, h3, h4, v, h5, h6, h7⟩ := good_all P i hi
  refine ⟨by rw [h1]; rfl, ?_, ?_⟩
  · simp only [opOf, h3, h4, h5, Int.toNat_natCast, h7]
  · simp only [okI, h1, h5]; omega
theorem lay_P (P : List (Nat × Nat × Op)) : layB (internS P).1 (internS P).2 = layP P := by
  have hl := (inS_len P).1
  have key : ∀ k, k ≤ P.length → layB (internS P).1 ((internS P).2.take k) = layP (P.take k) := by
    intro k
    induction k with
    | zero => intro _; rfl
    | succ k ih =>
      intro hk
      obtain ⟨h1, h2, _⟩ := item_op (P := P) (i := k) (by omega)
      rw [lay_succ (by omega), take_nth (l := P) (by omega), layP_snoc, ih (by omega), h1, h2]
  have := key P.length (by omega)
  rw [List.take_length, ← hl, List.take_length] at this
  exact this
/-- The last session that is not empty, of the first i. -/
def lastNE (h : List (List Op)) : Nat → Nat
  | 0 => 0
  | i + 1 => if nth h i = [] then lastNE h i else i + 1
theorem last_le (h : List (List Op)) : ∀ i, lastNE h i ≤ i
  | 0 => Nat.le_refl _
  | i + 1 => by
    simp only [lastNE]; split
    · have := last_le h i; omega
    · exact Nat.le_refl _
theorem last_nil (h : List (List Op)) : ∀ i r, lastNE h i ≤ r → r < i → nth h r = []
  | 0, r, _, h2 => by omega
  | i + 1, r, h1, h2 => by
    simp only [lastNE] at h1
    split at h1
    · rename_i he
      by_cases hr : r = i
      · rw [hr]; exact he
      · exact last_nil h i r h1 (by omega)
    · omega
theorem take_pad {h : List (List Op)} {m i : Nat} (hm : m ≤ i) (hi : i ≤ h.length) (hn : ∀ r, m ≤ r → r < i → nth h r = []) : padTo (h.take m) i = h.take i := by
  induction i with
  | zero => obtain rfl : m = 0 := by omega
            rfl
  | succ i ih =>
    by_cases he : m = i + 1
    · subst he
      rw [padTo, List.length_take, Nat.min_eq_left hi, Nat.sub_self]; simp
    · have ih := ih (by omega) (by omega) (fun r h1 h2 => hn r h1 (by omega))
      rw [take_nth (by omega), hn i (by omega) (by omega), ← ih, padTo, padTo, List.length_take, Nat.min_eq_left (by omega), show i + 1 - m = (i - m) + 1 by omega, List.replicate_succ', List.append_assoc]
theorem put_first {h : List (List Op)} {m i : Nat} {o : Op} (hm : m ≤ i) (hi : i ≤ h.length) (hn : ∀ r, m ≤ r → r < i → nth h r = []) : put1 (h.take m) i o = h.take i ++ [[o]] := by
  have e : padTo (h.take m) (i + 1) = h.take i ++ [[]] := by
    rw [← take_pad hm hi hn, padTo, padTo, List.length_take, Nat.min_eq_left (by omega), show i + 1 - m = (i - m) + 1 by omega, List.replicate_succ', List.append_assoc]
  have hl : (h.take i).length = i := by rw [List.length_take]; omega
  rw [put1, e, nth_hi (by omega) (by simp; omega), hl, Nat.sub_self, List.set_append_right _ _ (by omega), hl, Nat.sub_self]
  rfl
theorem put_more {h : List (List Op)} {i : Nat} {r : List Op} {o : Op} (hi : i ≤ h.length) : put1 (h.take i ++ [r]) i o = h.take i ++ [r ++ [o]] := by
  have hl : (h.take i).length = i := by rw [List.length_take]; omega
  have e : padTo (h.take i ++ [r]) (i + 1) = h.take i ++ [r] := by
    have : (h.take i ++ [r]).length = i + 1 := by rw [List.length_append, hl]; rfl
    conv => lhs; rw [← this, pad_self]
  rw [put1, e, nth_hi (by omega) (by simp; omega), hl, Nat.sub_self, List.set_append_right _ _ (by omega), hl, Nat.sub_self]
  rfl
theorem lay_rows {h : List (List Op)} {i : Nat} (hi : i < h.length) (hp : layP (preOps h i) = h.take (lastNE h i)) : ∀ j, j ≤ (nth h i).length → layP (preOps h i ++ rowOps i (nth h i) j) = if j = 0 then h.take (lastNE h i) else h.take i ++ [(nth h i).take j] := by
  intro j
  induction j with
  | zero => intro _; simp [rowOps, hp]
  | succ j ih =>
    intro hj
    rw [rowOps_succ, ← List.append_assoc, layP_snoc, ih (by omega), if_neg (Nat.succ_ne_zero j)]
    by_cases h0 : j = 0
    · subst h0
      rw [if_pos rfl]
      show put1 (h.take (lastNE h i)) i (nth (nth h i) 0) = _
      rw [put_first (last_le h i) (by omega) (last_nil h i), take_nth (by omega)]
      simp
    · rw [if_neg h0]
      show put1 (h.take i ++ [(nth h i).take j]) i (nth (nth h i) j) = _
      rw [put_more (by omega), take_nth (by omega)]
theorem lay_pre {h : List (List Op)} : ∀ i, i ≤ h.length → layP (preOps h i) = h.take (lastNE h i)
  | 0, _ => rfl
  | i + 1, hi => by
    rw [preOps_succ, lay_rows (by omega) (lay_pre i (by omega)) _ (Nat.le_refl _)]
    simp only [lastNE]
    by_cases he : nth h i = []
    · rw [if_pos (by rw [he]; rfl), if_pos he]
    · rw [if_neg (fun h => he (List.length_eq_zero_iff.1 h)), if_neg he, List.take_length, take_nth (by omega)]
def trimE (h : List (List Op)) : List (List Op) := h.take (lastNE h h.length)
theorem lay_back (h : List (List Op)) : layB (internF h).vars (internF h).items = trimE h := by
  show layB (internS (preOps h h.length)).1 (internS (preOps h h.length)).2 = _
  rw [lay_P, lay_pre _ (Nat.le_refl _)]; rfl
theorem all_app : ∀ (a b : List (List Op)) (s : Nat), (∀ l ∈ b, l = []) → allFrom s (a ++ b) = allFrom s a
  | [], b, s, hb => by
    induction b generalizing s with
    | nil => rfl
    | cons l r ih =>
      have : l = [] := hb l (by simp)
      subst this
      simp only [List.nil_append] at ih ⊢
      have := ih (s + 1) (fun l hl => hb l (by simp [hl]))
      simpa [rowOps, allFrom] using this
  | l :: r, b, s, hb => by
    simp only [List.cons_append, allFrom, all_app r b (s + 1) hb]
theorem drop_nil {h : List (List Op)} : ∀ l ∈ h.drop (lastNE h h.length), l = [] := by
  intro l hl
  obtain ⟨k, hk, rfl⟩ := List.mem_iff_getElem.1 hl
  rw [List.getElem_drop]
  rw [List.length_drop] at hk
  have := last_nil h h.length (lastNE h h.length + k) (by omega) (by omega)
  rwa [nth_eq (by omega)] at this
theorem trim_intern (h : List (List Op)) : internF (trimE h) = internF h := by
  have e : allFrom 0 (trimE h) = allFrom 0 h := by
    conv => rhs; rw [← List.take_append_drop (lastNE h h.length) h]
    rw [all_app _ _ _ drop_nil]; rfl
  simp only [internF, preOps_all, e]
theorem trim_flat (h : List (List Op)) : (trimE h).flatten = h.flatten := by
  have e : (h.drop (lastNE h h.length)).flatten = [] := List.flatten_eq_nil_iff.2 drop_nil
  conv => rhs; rw [← List.take_append_drop (lastNE h h.length) h]
  rw [List.flatten_append, e, List.append_nil]; rfl
theorem vars_nodup (P : List (Nat × Nat × Op)) : (internS P).1.Nodup := by
  have : ∀ k, k ≤ P.length → (internS (P.take k)).1.Nodup := by
    intro k
    induction k with
    | zero => intro _; simp [internS]
    | succ k ih =>
      intro hk
      rw [take_nth (by omega)]
      obtain ⟨s, j, o⟩ := nth P k
      by_cases hm : o.v ∈ (internS (P.take k)).1
      · rw [in_old hm]; exact ih (by omega)
      · rw [in_new hm, List.nodup_append]
        refine ⟨ih (by omega), by simp, ?_⟩
        intro a ha b hb
        rw [List.mem_singleton] at hb; subst hb
        rintro rfl; exact hm ha
  have := this P.length (by omega)
  rwa [List.take_length] at this
theorem vars_from (P : List (Nat × Nat × Op)) : ∀ v ∈ (internS P).1, ∃ q ∈ P, v = q.2.2.v := by
  have : ∀ k, k ≤ P.length → ∀ v ∈ (internS (P.take k)).1, ∃ q ∈ P, v = q.2.2.v := by
    intro k
    induction k with
    | zero => intro _ v hv; simp [internS] at hv
    | succ k ih =>
      intro hk v hv
      rw [take_nth (by omega)] at hv
      have hmem : nth P k ∈ P := by rw [nth_eq (by omega)]; exact List.getElem_mem _
      generalize nth P k = q at *
      obtain ⟨s, j, o⟩ := q
      by_cases hm : o.v ∈ (internS (P.take k)).1
      · rw [in_old hm] at hv; exact ih (by omega) v hv
      · rw [in_new hm, List.mem_append, List.mem_singleton] at hv
        rcases hv with hv | rfl
        · exact ih (by omega) v hv
        · exact ⟨_, hmem, rfl⟩
  have := this P.length (by omega)
  rwa [List.take_length] at this
theorem all_mem : ∀ (h : List (List Op)) (s : Nat) (q : Nat × Nat × Op), q ∈ allFrom s h → q.2.2 ∈ h.flatten ∧ q.1 < s + h.length
  | [], s, q, hq => by simp [allFrom] at hq
  | l :: r, s, q, hq => by
    rw [allFrom, List.mem_append] at hq
    rw [List.flatten_cons, List.mem_append, List.length_cons]
    rcases hq with hq | hq
    · simp only [rowOps, List.mem_map, List.mem_range] at hq
      obtain ⟨p, hp, rfl⟩ := hq
      exact ⟨.inl (by show nth l p ∈ l; rw [nth_eq hp]; exact List.getElem_mem _), by show s < _; omega⟩
    · obtain ⟨h1, h2⟩ := all_mem r (s + 1) q hq
      exact ⟨.inr h1, by omega⟩
theorem fbb_intern {h : List (List Op)} (hb' : okHa h) : fbb (internF h) := by
  have hv := in_vars_le h
  have hi := intern_len h
  obtain ⟨⟨b1, b2⟩, b3⟩ := hb'
  refine ⟨by omega, by omega, Nat.zero_le _, fun x hx => ?_, fun v hv => ?_⟩
  · obtain ⟨k, hk, rfl⟩ := List.mem_iff_getElem.1 hx
    have hl : k < (preOps h h.length).length := by have : (internF h).items.length = _ := (inS_len (preOps h h.length)).1; omega
    have h1 := (good_all (preOps h h.length) k hl).1
    have h2 := all_mem h 0 (nth (preOps h h.length) k) (by rw [← preOps_all]; rw [nth_eq hl]; exact List.getElem_mem _)
    have e : (internF h).items[k] = nth (internS (preOps h h.length)).2 k := (nth_eq (xs := (internF h).items) hk).symm
    rw [e, h1]; omega
  · obtain ⟨q, hq, rfl⟩ := vars_from _ v hv
    rw [preOps_all] at hq
    exact b3 _ (all_mem h 0 q hq).1
theorem back_intern {h : List (List Op)} (hr : rightB h = true) : backF (internF h) = some (trimE h) := by
  unfold backF
  rw [lay_back, if_pos]
  refine ⟨fun x hx => ?_, ?_, by rw [trim_intern], by rw [trim_intern]⟩
  · obtain ⟨k, hk, rfl⟩ := List.mem_iff_getElem.1 hx
    have hl : k < (preOps h h.length).length := by have : (internF h).items.length = _ := (inS_len (preOps h h.length)).1; omega
    have := (item_op hl).2.2
    have e : (internF h).items[k] = nth (internS (preOps h h.length)).2 k := (nth_eq (xs := (internF h).items) hk).symm
    rw [e]
    exact this
  · rw [rightB, trim_flat]; exact hr
theorem trim_len (h : List (List Op)) : (trimE h).length ≤ h.length ∧ trimE h = h.take (trimE h).length := by
  have := last_le h h.length
  constructor
  · rw [trimE, List.length_take]; omega
  · conv => rhs; rw [trimE, List.length_take, Nat.min_eq_left this]
    rfl
end Go.AM

set_option linter.unusedVariables false
set_option linter.unusedSimpArgs false
namespace Go.AM
attribute [-simp] List.length_flatten List.map_flatten List.map_take List.map_map List.flatten_append
set_option maxHeartbeats 2000000 in
instance internBack (h : List (List Op)) : PCon T0 n.law09_InternBack [eH h] false (okHa h) (.bool true) := ⟨fun oh => by
  have b1 := oh.1
  have hb1 : hb h ∧ ∀ o ∈ h.flatten, o.v.length ≤ 1048576 := oh
  refine pc tabOk ?_
  repeat' first | (apply dr_fin; (focus exact xx)) | (apply dr_v; focus (apply DV.mk; (focus exact RF.mk rfl); (focus exact RF.mk rfl); (focus exact RF.mk rfl); (focus exact RF.mk rfl); (focus exact xx); focus (first | exact InD.no | (apply InD.so; (focus exact xx))))) | (apply dr_r; focus (apply DL.mk; (focus exact RF.mk rfl); (focus exact xx); (focus exact xx); focus (first | exact InD.no | (apply InD.so; (focus exact xx))))) | (apply dr_l; (focus exact RF.mk rfl); (focus exact RF.mk rfl); (focus exact RF.mk rfl); (focus exact RF.mk rfl); (focus exact RF.mk rfl)) | (apply dr_e; (focus exact RF.mk rfl); (focus exact RF.mk rfl); (focus exact RF.mk rfl); (focus exact RF.mk rfl)) | (apply rd_e; (focus exact xx); focus (repeat first | exact PO.nil | apply PO.zero | (apply PO.ld; (focus exact xx)))) | (apply rd_l; (focus exact xx)) | refine wh_seq ?_ | refine wh_skip ?_ | refine wh_block ?_ | refine wh_end ?_ | refine wh_exit ?_ | refine wh_ret ?_ | refine bk_norm ?_ | refine bk_exit ?_ | refine bk_ret ?_ | refine fr_exit ?_ | refine fr_ret ?_ | refine lp_exit ?_ | refine lp_ret ?_ | refine bk_other rfl ?_ | (apply wr; focus exact xx) | refine wh_reg ?_ | refine wh_ife ?_ | (apply re; focus exact xx) | (apply ra; (focus exact xx); (focus exact xx); intro _) | (apply r1; (focus exact xx); (focus exact xx); intro _) | (apply rl; (focus exact xx); (focus exact xx); intro _) | (apply rb; (focus exact xx); (focus exact xx); intro _) | (apply rsi; (focus exact xx); (focus exact xx); all_goals try infer_instance) | (apply rsz; (focus exact xx); (focus exact xx); all_goals try infer_instance) | (apply rt; (focus exact xx); (focus exact xx)) | (apply rso; (focus exact xx); (focus exact xx); all_goals try infer_instance) | (apply rmm; (focus exact xx); intro _) | (apply ru; (focus exact xx); (focus exact xx)) | (apply rm; (focus exact xx); (focus exact xx); intro _) | (apply rk; (focus exact xx); (focus exact xx); intro _) | (apply rc; (focus exact xx); (focus exact xx)) | (apply rk'; (focus exact xx); (focus exact xx))
  ((first | apply wi | apply rf); (focus exact xx); (focus exact xx); all_goals intro _)
  · repeat' first | (apply dr_fin; (focus exact xx)) | (apply dr_v; focus (apply DV.mk; (focus exact RF.mk rfl); (focus exact RF.mk rfl); (focus exact RF.mk rfl); (focus exact RF.mk rfl); (focus exact xx); focus (first | exact InD.no | (apply InD.so; (focus exact xx))))) | (apply dr_r; focus (apply DL.mk; (focus exact RF.mk rfl); (focus exact xx); (focus exact xx); focus (first | exact InD.no | (apply InD.so; (focus exact xx))))) | (apply dr_l; (focus exact RF.mk rfl); (focus exact RF.mk rfl); (focus exact RF.mk rfl); (focus exact RF.mk rfl); (focus exact RF.mk rfl)) | (apply dr_e; (focus exact RF.mk rfl); (focus exact RF.mk rfl); (focus exact RF.mk rfl); (focus exact RF.mk rfl)) | (apply rd_e; (focus exact xx); focus (repeat first | exact PO.nil | apply PO.zero | (apply PO.ld; (focus exact xx)))) | (apply rd_l; (focus exact xx)) | refine wh_seq ?_ | refine wh_skip ?_ | refine wh_block ?_ | refine wh_end ?_ | refine wh_exit ?_ | refine wh_ret ?_ | refine bk_norm ?_ | refine bk_exit ?_ | refine bk_ret ?_ | refine fr_exit ?_ | refine fr_ret ?_ | refine lp_exit ?_ | refine lp_ret ?_ | refine bk_other rfl ?_ | (apply wr; focus exact xx) | (apply wi; (focus exact xx); (focus exact xx); all_goals intro _; all_goals try first | contradiction | (exfalso; omega) | exact absurd trivial ‹_›) | refine wh_reg ?_ | refine wh_ife ?_ | (apply re; focus exact xx) | (apply rf; (focus exact xx); (focus exact xx); all_goals intro _; all_goals try first | contradiction | (exfalso; omega) | exact absurd trivial ‹_›) | (apply ra; (focus exact xx); (focus exact xx); intro _) | (apply r1; (focus exact xx); (focus exact xx); intro _) | (apply rl; (focus exact xx); (focus exact xx); intro _) | (apply rb; (focus exact xx); (focus exact xx); intro _) | (apply rsi; (focus exact xx); (focus exact xx); all_goals try infer_instance) | (apply rsz; (focus exact xx); (focus exact xx); all_goals try infer_instance) | (apply rt; (focus exact xx); (focus exact xx)) | (apply rso; (focus exact xx); (focus exact xx); all_goals try infer_instance) | (apply rmm; (focus exact xx); intro _) | (apply ru; (focus exact xx); (focus exact xx)) | (apply rm; (focus exact xx); (focus exact xx); intro _) | (apply rk; (focus exact xx); (focus exact xx); intro _) | (apply rc; (focus exact xx); (focus exact xx)) | (apply rk'; (focus exact xx); (focus exact xx))
    exact fz rfl
  rename_i hc
  have hr : rightB h = true := by
    by_cases hr : rightB h = true
    · exact hr
    · exact absurd (.inr hr) hc
  have c1 := iof_t h hb1 hr
  have hbk := fbb_intern oh
  have hbi := back_intern hr
  have hnd : (internF h).vars.Nodup := vars_nodup _
  have hvl := in_vars_le h
  obtain ⟨ht1, ht2⟩ := trim_len h
  have htf := trim_flat h
  generalize internF h = F at *
  generalize trimE h = g at *
  have c2 : PCon T0 n.intern_Back [eFacts F] true True (.tup [eH g, .bool true]) := ⟨fun _ => by have := (intern_Back F).con hbk; rw [hbi] at this; exact this⟩
  have hgb : hb g := ⟨by have := b1.1; omega, by rw [htf]; exact b1.2⟩
  have hb2 := b1.2
  clear hbi hbk
  repeat' first | (apply dr_fin; (focus exact xx)) | (apply dr_v; focus (apply DV.mk; (focus exact RF.mk rfl); (focus exact RF.mk rfl); (focus exact RF.mk rfl); (focus exact RF.mk rfl); (focus exact xx); focus (first | exact InD.no | (apply InD.so; (focus exact xx))))) | (apply dr_r; focus (apply DL.mk; (focus exact RF.mk rfl); (focus exact xx); (focus exact xx); focus (first | exact InD.no | (apply InD.so; (focus exact xx))))) | (apply dr_l; (focus exact RF.mk rfl); (focus exact RF.mk rfl); (focus exact RF.mk rfl); (focus exact RF.mk rfl); (focus exact RF.mk rfl)) | (apply dr_e; (focus exact RF.mk rfl); (focus exact RF.mk rfl); (focus exact RF.mk rfl); (focus exact RF.mk rfl)) | (apply rd_e; (focus exact xx); focus (repeat first | exact PO.nil | apply PO.zero | (apply PO.ld; (focus exact xx)))) | (apply rd_l; (focus exact xx)) | refine wh_seq ?_ | refine wh_skip ?_ | refine wh_block ?_ | refine wh_end ?_ | refine wh_exit ?_ | refine wh_ret ?_ | refine bk_norm ?_ | refine bk_exit ?_ | refine bk_ret ?_ | refine fr_exit ?_ | refine fr_ret ?_ | refine lp_exit ?_ | refine lp_ret ?_ | refine bk_other rfl ?_ | (apply wr; focus exact xx) | refine wh_reg ?_ | refine wh_ife ?_ | (apply re; focus exact xx) | (apply ra; (focus exact xx); (focus exact xx); intro _) | (apply r1; (focus exact xx); (focus exact xx); intro _) | (apply rl; (focus exact xx); (focus exact xx); intro _) | (apply rb; (focus exact xx); (focus exact xx); intro _) | (apply rsi; (focus exact xx); (focus exact xx); all_goals try infer_instance) | (apply rsz; (focus exact xx); (focus exact xx); all_goals try infer_instance) | (apply rt; (focus exact xx); (focus exact xx)) | (apply rso; (focus exact xx); (focus exact xx); all_goals try infer_instance) | (apply rmm; (focus exact xx); intro _) | (apply ru; (focus exact xx); (focus exact xx)) | (apply rm; (focus exact xx); (focus exact xx); intro _) | (apply rk; (focus exact xx); (focus exact xx); intro _) | (apply rc; (focus exact xx); (focus exact xx)) | (apply rk'; (focus exact xx); (focus exact xx))
  ((first | apply wi | apply rf); (focus exact xx); (focus exact xx); all_goals intro _)
  · exfalso
    rename_i h1
    rw [Int.toNat_natCast, ← ht2, htf] at h1
    simp at h1
    omega
  repeat' first | (apply dr_fin; (focus exact xx)) | (apply dr_v; focus (apply DV.mk; (focus exact RF.mk rfl); (focus exact RF.mk rfl); (focus exact RF.mk rfl); (focus exact RF.mk rfl); (focus exact xx); focus (first | exact InD.no | (apply InD.so; (focus exact xx))))) | (apply dr_r; focus (apply DL.mk; (focus exact RF.mk rfl); (focus exact xx); (focus exact xx); focus (first | exact InD.no | (apply InD.so; (focus exact xx))))) | (apply dr_l; (focus exact RF.mk rfl); (focus exact RF.mk rfl); (focus exact RF.mk rfl); (focus exact RF.mk rfl); (focus exact RF.mk rfl)) | (apply dr_e; (focus exact RF.mk rfl); (focus exact RF.mk rfl); (focus exact RF.mk rfl); (focus exact RF.mk rfl)) | (apply rd_e; (focus exact xx); focus (repeat first | exact PO.nil | apply PO.zero | (apply PO.ld; (focus exact xx)))) | (apply rd_l; (focus exact xx)) | refine wh_seq ?_ | refine wh_skip ?_ | refine wh_block ?_ | refine wh_end ?_ | refine wh_exit ?_ | refine wh_ret ?_ | refine bk_norm ?_ | refine bk_exit ?_ | refine bk_ret ?_ | refine fr_exit ?_ | refine fr_ret ?_ | refine lp_exit ?_ | refine lp_ret ?_ | refine bk_other rfl ?_ | (apply wr; focus exact xx) | (apply wi; (focus exact xx); (focus exact xx); all_goals intro _; all_goals try first | contradiction | (exfalso; omega) | exact absurd trivial ‹_›) | refine wh_reg ?_ | refine wh_ife ?_ | (apply re; focus exact xx) | (apply rf; (focus exact xx); (focus exact xx); all_goals intro _; all_goals try first | contradiction | (exfalso; omega) | exact absurd trivial ‹_›) | (apply ra; (focus exact xx); (focus exact xx); intro _) | (apply r1; (focus exact xx); (focus exact xx); intro _) | (apply rl; (focus exact xx); (focus exact xx); intro _) | (apply rb; (focus exact xx); (focus exact xx); intro _) | (apply rsi; (focus exact xx); (focus exact xx); all_goals try infer_instance) | (apply rsz; (focus exact xx); (focus exact xx); all_goals try infer_instance) | (apply rt; (focus exact xx); (focus exact xx)) | (apply rso; (focus exact xx); (focus exact xx); all_goals try infer_instance) | (apply rmm; (focus exact xx); intro _) | (apply ru; (focus exact xx); (focus exact xx)) | (apply rm; (focus exact xx); (focus exact xx); intro _) | (apply rk; (focus exact xx); (focus exact xx); intro _) | (apply rc; (focus exact xx); (focus exact xx)) | (apply rk'; (focus exact xx); (focus exact xx))
  rename_i id _
  refine wh_count F.vars.length (fun i A L => A = [(3, .ptr id 3 0 0), (7, .int .i64 (i : Nat))] ∧ L = [.ob id (.row 3 false [eFacts F])]) ⟨rfl, rfl⟩ ?_
  rintro i A L hi ⟨rfl, rfl⟩
  by_cases hlt : i < F.vars.length
  · repeat' first | (apply dr_fin; (focus exact xx)) | (apply dr_v; focus (apply DV.mk; (focus exact RF.mk rfl); (focus exact RF.mk rfl); (focus exact RF.mk rfl); (focus exact RF.mk rfl); (focus exact xx); focus (first | exact InD.no | (apply InD.so; (focus exact xx))))) | (apply dr_r; focus (apply DL.mk; (focus exact RF.mk rfl); (focus exact xx); (focus exact xx); focus (first | exact InD.no | (apply InD.so; (focus exact xx))))) | (apply dr_l; (focus exact RF.mk rfl); (focus exact RF.mk rfl); (focus exact RF.mk rfl); (focus exact RF.mk rfl); (focus exact RF.mk rfl)) | (apply dr_e; (focus exact RF.mk rfl); (focus exact RF.mk rfl); (focus exact RF.mk rfl); (focus exact RF.mk rfl)) | (apply rd_e; (focus exact xx); focus (repeat first | exact PO.nil | apply PO.zero | (apply PO.ld; (focus exact xx)))) | (apply rd_l; (focus exact xx)) | refine wh_seq ?_ | refine wh_skip ?_ | refine wh_block ?_ | refine wh_end ?_ | refine wh_exit ?_ | refine wh_ret ?_ | refine bk_norm ?_ | refine bk_exit ?_ | refine bk_ret ?_ | refine fr_exit ?_ | refine fr_ret ?_ | refine lp_exit ?_ | refine lp_ret ?_ | refine bk_other rfl ?_ | (apply wr; focus exact xx) | (apply wi; (focus exact xx); (focus exact xx); all_goals intro _; all_goals try first | contradiction | (exfalso; omega) | exact absurd trivial ‹_›) | refine wh_reg ?_ | refine wh_ife ?_ | (apply re; focus exact xx) | (apply rf; (focus exact xx); (focus exact xx); all_goals intro _; all_goals try first | contradiction | (exfalso; omega) | exact absurd trivial ‹_›) | (apply ra; (focus exact xx); (focus exact xx); intro _) | (apply r1; (focus exact xx); (focus exact xx); intro _) | (apply rl; (focus exact xx); (focus exact xx); intro _) | (apply rb; (focus exact xx); (focus exact xx); intro _) | (apply rsi; (focus exact xx); (focus exact xx); all_goals try infer_instance) | (apply rsz; (focus exact xx); (focus exact xx); all_goals try infer_instance) | (apply rt; (focus exact xx); (focus exact xx)) | (apply rso; (focus exact xx); (focus exact xx); all_goals try infer_instance) | (apply rmm; (focus exact xx); intro _) | (apply ru; (focus exact xx); (focus exact xx)) | (apply rm; (focus exact xx); (focus exact xx); intro _) | (apply rk; (focus exact xx); (focus exact xx); intro _) | (apply rc; (focus exact xx); (focus exact xx)) | (apply rk'; (focus exact xx); (focus exact xx))
    refine wh_count i (fun k A L => A = [(3, .ptr id 3 0 0), (7, .int .i64 (i : Nat)), (8, .int .i64 (k : Nat))] ∧ L = [.ob id (.row 3 false [eFacts F])]) ⟨rfl, rfl⟩ ?_
    rintro k A L hk ⟨rfl, rfl⟩
    by_cases hkl : k < i
    · repeat' first | (apply dr_fin; (focus exact xx)) | (apply dr_v; focus (apply DV.mk; (focus exact RF.mk rfl); (focus exact RF.mk rfl); (focus exact RF.mk rfl); (focus exact RF.mk rfl); (focus exact xx); focus (first | exact InD.no | (apply InD.so; (focus exact xx))))) | (apply dr_r; focus (apply DL.mk; (focus exact RF.mk rfl); (focus exact xx); (focus exact xx); focus (first | exact InD.no | (apply InD.so; (focus exact xx))))) | (apply dr_l; (focus exact RF.mk rfl); (focus exact RF.mk rfl); (focus exact RF.mk rfl); (focus exact RF.mk rfl); (focus exact RF.mk rfl)) | (apply dr_e; (focus exact RF.mk rfl); (focus exact RF.mk rfl); (focus exact RF.mk rfl); (focus exact RF.mk rfl)) | (apply rd_e; (focus exact xx); focus (repeat first | exact PO.nil | apply PO.zero | (apply PO.ld; (focus exact xx)))) | (apply rd_l; (focus exact xx)) | refine wh_seq ?_ | refine wh_skip ?_ | refine wh_block ?_ | refine wh_end ?_ | refine wh_exit ?_ | refine wh_ret ?_ | refine bk_norm ?_ | refine bk_exit ?_ | refine bk_ret ?_ | refine fr_exit ?_ | refine fr_ret ?_ | refine lp_exit ?_ | refine lp_ret ?_ | refine bk_other rfl ?_ | (apply wr; focus exact xx) | refine wh_reg ?_ | refine wh_ife ?_ | (apply re; focus exact xx) | (apply ra; (focus exact xx); (focus exact xx); intro _) | (apply r1; (focus exact xx); (focus exact xx); intro _) | (apply rl; (focus exact xx); (focus exact xx); intro _) | (apply rb; (focus exact xx); (focus exact xx); intro _) | (apply rsi; (focus exact xx); (focus exact xx); all_goals try infer_instance) | (apply rsz; (focus exact xx); (focus exact xx); all_goals try infer_instance) | (apply rt; (focus exact xx); (focus exact xx)) | (apply rso; (focus exact xx); (focus exact xx); all_goals try infer_instance) | (apply rmm; (focus exact xx); intro _) | (apply ru; (focus exact xx); (focus exact xx)) | (apply rm; (focus exact xx); (focus exact xx); intro _) | (apply rk; (focus exact xx); (focus exact xx); intro _) | (apply rc; (focus exact xx); (focus exact xx)) | (apply rk'; (focus exact xx); (focus exact xx))
      ((first | apply wi | apply rf); (focus exact xx); (focus exact xx); all_goals intro _)
      · repeat' first | (apply dr_fin; (focus exact xx)) | (apply dr_v; focus (apply DV.mk; (focus exact RF.mk rfl); (focus exact RF.mk rfl); (focus exact RF.mk rfl); (focus exact RF.mk rfl); (focus exact xx); focus (first | exact InD.no | (apply InD.so; (focus exact xx))))) | (apply dr_r; focus (apply DL.mk; (focus exact RF.mk rfl); (focus exact xx); (focus exact xx); focus (first | exact InD.no | (apply InD.so; (focus exact xx))))) | (apply dr_l; (focus exact RF.mk rfl); (focus exact RF.mk rfl); (focus exact RF.mk rfl); (focus exact RF.mk rfl); (focus exact RF.mk rfl)) | (apply dr_e; (focus exact RF.mk rfl); (focus exact RF.mk rfl); (focus exact RF.mk rfl); (focus exact RF.mk rfl)) | (apply rd_e; (focus exact xx); focus (repeat first | exact PO.nil | apply PO.zero | (apply PO.ld; (focus exact xx)))) | (apply rd_l; (focus exact xx)) | refine wh_seq ?_ | refine wh_skip ?_ | refine wh_block ?_ | refine wh_end ?_ | refine wh_exit ?_ | refine wh_ret ?_ | refine bk_norm ?_ | refine bk_exit ?_ | refine bk_ret ?_ | refine fr_exit ?_ | refine fr_ret ?_ | refine lp_exit ?_ | refine lp_ret ?_ | refine bk_other rfl ?_ | (apply wr; focus exact xx) | refine wh_reg ?_ | refine wh_ife ?_ | (apply re; focus exact xx) | (apply ra; (focus exact xx); (focus exact xx); intro _) | (apply r1; (focus exact xx); (focus exact xx); intro _) | (apply rl; (focus exact xx); (focus exact xx); intro _) | (apply rb; (focus exact xx); (focus exact xx); intro _) | (apply rsi; (focus exact xx); (focus exact xx); all_goals try infer_instance) | (apply rsz; (focus exact xx); (focus exact xx); all_goals try infer_instance) | (apply rt; (focus exact xx); (focus exact xx)) | (apply rso; (focus exact xx); (focus exact xx); all_goals try infer_instance) | (apply rmm; (focus exact xx); intro _) | (apply ru; (focus exact xx); (focus exact xx)) | (apply rm; (focus exact xx); (focus exact xx); intro _) | (apply rk; (focus exact xx); (focus exact xx); intro _) | (apply rc; (focus exact xx); (focus exact xx)) | (apply rk'; (focus exact xx); (focus exact xx))
        ((first | apply wi | apply rf); (focus exact xx); (focus exact xx); all_goals intro _)
        · exfalso
          rename_i h2
          rw [nth_eq hlt, nth_eq (by omega)] at h2
          exact List.pairwise_iff_getElem.1 hnd k i (by omega) hlt hkl h2.symm
        · repeat' first | (apply dr_fin; (focus exact xx)) | (apply dr_v; focus (apply DV.mk; (focus exact RF.mk rfl); (focus exact RF.mk rfl); (focus exact RF.mk rfl); (focus exact RF.mk rfl); (focus exact xx); focus (first | exact InD.no | (apply InD.so; (focus exact xx))))) | (apply dr_r; focus (apply DL.mk; (focus exact RF.mk rfl); (focus exact xx); (focus exact xx); focus (first | exact InD.no | (apply InD.so; (focus exact xx))))) | (apply dr_l; (focus exact RF.mk rfl); (focus exact RF.mk rfl); (focus exact RF.mk rfl); (focus exact RF.mk rfl); (focus exact RF.mk rfl)) | (apply dr_e; (focus exact RF.mk rfl); (focus exact RF.mk rfl); (focus exact RF.mk rfl); (focus exact RF.mk rfl)) | (apply rd_e; (focus exact xx); focus (repeat first | exact PO.nil | apply PO.zero | (apply PO.ld; (focus exact xx)))) | (apply rd_l; (focus exact xx)) | refine wh_seq ?_ | refine wh_skip ?_ | refine wh_block ?_ | refine wh_end ?_ | refine wh_exit ?_ | refine wh_ret ?_ | refine bk_norm ?_ | refine bk_exit ?_ | refine bk_ret ?_ | refine fr_exit ?_ | refine fr_ret ?_ | refine lp_exit ?_ | refine lp_ret ?_ | refine bk_other rfl ?_ | (apply wr; focus exact xx) | (apply wi; (focus exact xx); (focus exact xx); all_goals intro _; all_goals try first | contradiction | (exfalso; omega) | exact absurd trivial ‹_›) | refine wh_reg ?_ | refine wh_ife ?_ | (apply re; focus exact xx) | (apply rf; (focus exact xx); (focus exact xx); all_goals intro _; all_goals try first | contradiction | (exfalso; omega) | exact absurd trivial ‹_›) | (apply ra; (focus exact xx); (focus exact xx); intro _) | (apply r1; (focus exact xx); (focus exact xx); intro _) | (apply rl; (focus exact xx); (focus exact xx); intro _) | (apply rb; (focus exact xx); (focus exact xx); intro _) | (apply rsi; (focus exact xx); (focus exact xx); all_goals try infer_instance) | (apply rsz; (focus exact xx); (focus exact xx); all_goals try infer_instance) | (apply rt; (focus exact xx); (focus exact xx)) | (apply rso; (focus exact xx); (focus exact xx); all_goals try infer_instance) | (apply rmm; (focus exact xx); intro _) | (apply ru; (focus exact xx); (focus exact xx)) | (apply rm; (focus exact xx); (focus exact xx); intro _) | (apply rk; (focus exact xx); (focus exact xx); intro _) | (apply rc; (focus exact xx); (focus exact xx)) | (apply rk'; (focus exact xx); (focus exact xx))
          exact fr_next (by omega) sbc ⟨rfl, rfl⟩
      · exfalso; omega
    · repeat' first | (apply dr_fin; (focus exact xx)) | (apply dr_v; focus (apply DV.mk; (focus exact RF.mk rfl); (focus exact RF.mk rfl); (focus exact RF.mk rfl); (focus exact RF.mk rfl); (focus exact xx); focus (first | exact InD.no | (apply InD.so; (focus exact xx))))) | (apply dr_r; focus (apply DL.mk; (focus exact RF.mk rfl); (focus exact xx); (focus exact xx); focus (first | exact InD.no | (apply InD.so; (focus exact xx))))) | (apply dr_l; (focus exact RF.mk rfl); (focus exact RF.mk rfl); (focus exact RF.mk rfl); (focus exact RF.mk rfl); (focus exact RF.mk rfl)) | (apply dr_e; (focus exact RF.mk rfl); (focus exact RF.mk rfl); (focus exact RF.mk rfl); (focus exact RF.mk rfl)) | (apply rd_e; (focus exact xx); focus (repeat first | exact PO.nil | apply PO.zero | (apply PO.ld; (focus exact xx)))) | (apply rd_l; (focus exact xx)) | refine wh_seq ?_ | refine wh_skip ?_ | refine wh_block ?_ | refine wh_end ?_ | refine wh_exit ?_ | refine wh_ret ?_ | refine bk_norm ?_ | refine bk_exit ?_ | refine bk_ret ?_ | refine fr_exit ?_ | refine fr_ret ?_ | refine lp_exit ?_ | refine lp_ret ?_ | refine bk_other rfl ?_ | (apply wr; focus exact xx) | (apply wi; (focus exact xx); (focus exact xx); all_goals intro _; all_goals try first | contradiction | (exfalso; omega) | exact absurd trivial ‹_›) | refine wh_reg ?_ | refine wh_ife ?_ | (apply re; focus exact xx) | (apply rf; (focus exact xx); (focus exact xx); all_goals intro _; all_goals try first | contradiction | (exfalso; omega) | exact absurd trivial ‹_›) | (apply ra; (focus exact xx); (focus exact xx); intro _) | (apply r1; (focus exact xx); (focus exact xx); intro _) | (apply rl; (focus exact xx); (focus exact xx); intro _) | (apply rb; (focus exact xx); (focus exact xx); intro _) | (apply rsi; (focus exact xx); (focus exact xx); all_goals try infer_instance) | (apply rsz; (focus exact xx); (focus exact xx); all_goals try infer_instance) | (apply rt; (focus exact xx); (focus exact xx)) | (apply rso; (focus exact xx); (focus exact xx); all_goals try infer_instance) | (apply rmm; (focus exact xx); intro _) | (apply ru; (focus exact xx); (focus exact xx)) | (apply rm; (focus exact xx); (focus exact xx); intro _) | (apply rk; (focus exact xx); (focus exact xx); intro _) | (apply rc; (focus exact xx); (focus exact xx)) | (apply rk'; (focus exact xx); (focus exact xx))
      exact fr_next (by omega) sbc ⟨rfl, rfl⟩
  · repeat' first | (apply dr_fin; (focus exact xx)) | (apply dr_v; focus (apply DV.mk; (focus exact RF.mk rfl); (focus exact RF.mk rfl); (focus exact RF.mk rfl); (focus exact RF.mk rfl); (focus exact xx); focus (first | exact InD.no | (apply InD.so; (focus exact xx))))) | (apply dr_r; focus (apply DL.mk; (focus exact RF.mk rfl); (focus exact xx); (focus exact xx); focus (first | exact InD.no | (apply InD.so; (focus exact xx))))) | (apply dr_l; (focus exact RF.mk rfl); (focus exact RF.mk rfl); (focus exact RF.mk rfl); (focus exact RF.mk rfl); (focus exact RF.mk rfl)) | (apply dr_e; (focus exact RF.mk rfl); (focus exact RF.mk rfl); (focus exact RF.mk rfl); (focus exact RF.mk rfl)) | (apply rd_e; (focus exact xx); focus (repeat first | exact PO.nil | apply PO.zero | (apply PO.ld; (focus exact xx)))) | (apply rd_l; (focus exact xx)) | refine wh_seq ?_ | refine wh_skip ?_ | refine wh_block ?_ | refine wh_end ?_ | refine wh_exit ?_ | refine wh_ret ?_ | refine bk_norm ?_ | refine bk_exit ?_ | refine bk_ret ?_ | refine fr_exit ?_ | refine fr_ret ?_ | refine lp_exit ?_ | refine lp_ret ?_ | refine bk_other rfl ?_ | (apply wr; focus exact xx) | (apply wi; (focus exact xx); (focus exact xx); all_goals intro _; all_goals try first | contradiction | (exfalso; omega) | exact absurd trivial ‹_›) | refine wh_reg ?_ | refine wh_ife ?_ | (apply re; focus exact xx) | (apply rf; (focus exact xx); (focus exact xx); all_goals intro _; all_goals try first | contradiction | (exfalso; omega) | exact absurd trivial ‹_›) | (apply ra; (focus exact xx); (focus exact xx); intro _) | (apply r1; (focus exact xx); (focus exact xx); intro _) | (apply rl; (focus exact xx); (focus exact xx); intro _) | (apply rb; (focus exact xx); (focus exact xx); intro _) | (apply rsi; (focus exact xx); (focus exact xx); all_goals try infer_instance) | (apply rsz; (focus exact xx); (focus exact xx); all_goals try infer_instance) | (apply rt; (focus exact xx); (focus exact xx)) | (apply rso; (focus exact xx); (focus exact xx); all_goals try infer_instance) | (apply rmm; (focus exact xx); intro _) | (apply ru; (focus exact xx); (focus exact xx)) | (apply rm; (focus exact xx); (focus exact xx); intro _) | (apply rk; (focus exact xx); (focus exact xx); intro _) | (apply rc; (focus exact xx); (focus exact xx)) | (apply rk'; (focus exact xx); (focus exact xx))
    exact fz rfl⟩
end Go.AM

set_option linter.unusedVariables false
set_option linter.unusedSimpArgs false
namespace Go.AM
open Go.RowKit Go.Deep Go.Proofs
theorem internBack_ok (h : List (List Op)) (hb : (fun xs => wsum (fun xs => wsum wtOp xs + 1) xs + 1) h ≤ 1048576) : okHa h := okHa_of hb
end Go.AM

