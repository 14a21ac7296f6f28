/- Part ZD of the proof. -/
import Derived.Test.YtbjikpplkjeaiaaDoorZC
import Derived.Test.YtbjikpplkjeaiaaDoorA3
set_option linter.unusedVariables false
set_option linter.unusedSimpArgs false
namespace Go.AM
attribute [-simp] List.length_flatten List.map_flatten List.map_take List.map_map List.flatten_append
def okFa (f : Facts) : Prop := fle f
def okHa (h : List (List Op)) : Prop := hb h ∧ ∀ o ∈ h.flatten, o.v.length ≤ 1048576
theorem back_hb {f : Facts} {g : List (List Op)} (hf : fbb f) (h : backF f = some g) : hb g := by
  unfold backF at h
  split at h
  · rename_i hc
    injection h with h
    subst h
    exact (lay_ok hf hc.1).1
  · cases h
theorem small_fbb {f : Facts} (h : smallF f 60) : fbb f := by
  obtain ⟨h1, h2, h3, h4, h5⟩ := h
  refine ⟨by omega, by omega, by omega, fun x hx => ?_, fun v hv => ?_⟩
  · have := h5 x hx; omega
  · have := h4 v hv; omega
set_option maxHeartbeats 2000000 in
instance internTells (h : List (List Op)) (a b : Facts) : PCon T0 n.law09_InternTells [eH h, eFacts a, eFacts b] false (okHa h ∧ okFa a ∧ okFa b) (.bool true) := ⟨fun ⟨oh, oa, ob⟩ => by
  have b1 := oh.1
  have oa' : fle a := oa
  have ob' : fle b := ob
  refine pc tabOk ?_
  repeat' first | (apply dr_fin; (focus exact xx)) | (apply dr_v; focus (apply DV.mk; (focus exact RF.mk rfl); (focus exact RF.mk rfl); (focus exact RF.mk rfl); (focus exact RF.mk rfl); (focus exact xx); focus (first | exact InD.no | (apply InD.so; (focus exact xx))))) | (apply dr_r; focus (apply DL.mk; (focus exact RF.mk rfl); (focus exact xx); (focus exact xx); focus (first | exact InD.no | (apply InD.so; (focus exact xx))))) | (apply dr_l; (focus exact RF.mk rfl); (focus exact RF.mk rfl); (focus exact RF.mk rfl); (focus exact RF.mk rfl); (focus exact RF.mk rfl)) | (apply dr_e; (focus exact RF.mk rfl); (focus exact RF.mk rfl); (focus exact RF.mk rfl); (focus exact RF.mk rfl)) | (apply rd_e; (focus exact xx); focus (repeat first | exact PO.nil | apply PO.zero | (apply PO.ld; (focus exact xx)))) | (apply rd_l; (focus exact xx)) | refine wh_seq ?_ | refine wh_skip ?_ | refine wh_block ?_ | refine wh_end ?_ | refine wh_exit ?_ | refine wh_ret ?_ | refine bk_norm ?_ | refine bk_exit ?_ | refine bk_ret ?_ | refine fr_exit ?_ | refine fr_ret ?_ | refine lp_exit ?_ | refine lp_ret ?_ | refine bk_other rfl ?_ | (apply wr; focus exact xx) | refine wh_reg ?_ | refine wh_ife ?_ | (apply re; focus exact xx) | (apply ra; (focus exact xx); (focus exact xx); intro _) | (apply r1; (focus exact xx); (focus exact xx); intro _) | (apply rl; (focus exact xx); (focus exact xx); intro _) | (apply rb; (focus exact xx); (focus exact xx); intro _) | (apply rsi; (focus exact xx); (focus exact xx); all_goals try infer_instance) | (apply rsz; (focus exact xx); (focus exact xx); all_goals try infer_instance) | (apply rt; (focus exact xx); (focus exact xx)) | (apply rso; (focus exact xx); (focus exact xx); all_goals try infer_instance) | (apply rmm; (focus exact xx); intro _) | (apply ru; (focus exact xx); (focus exact xx)) | (apply rm; (focus exact xx); (focus exact xx); intro _) | (apply rk; (focus exact xx); (focus exact xx); intro _) | (apply rc; (focus exact xx); (focus exact xx)) | (apply rk'; (focus exact xx); (focus exact xx))
  ((first | apply wi | apply rf); (focus exact xx); (focus exact xx); all_goals intro _)
  · repeat' first | (apply dr_fin; (focus exact xx)) | (apply dr_v; focus (apply DV.mk; (focus exact RF.mk rfl); (focus exact RF.mk rfl); (focus exact RF.mk rfl); (focus exact RF.mk rfl); (focus exact xx); focus (first | exact InD.no | (apply InD.so; (focus exact xx))))) | (apply dr_r; focus (apply DL.mk; (focus exact RF.mk rfl); (focus exact xx); (focus exact xx); focus (first | exact InD.no | (apply InD.so; (focus exact xx))))) | (apply dr_l; (focus exact RF.mk rfl); (focus exact RF.mk rfl); (focus exact RF.mk rfl); (focus exact RF.mk rfl); (focus exact RF.mk rfl)) | (apply dr_e; (focus exact RF.mk rfl); (focus exact RF.mk rfl); (focus exact RF.mk rfl); (focus exact RF.mk rfl)) | (apply rd_e; (focus exact xx); focus (repeat first | exact PO.nil | apply PO.zero | (apply PO.ld; (focus exact xx)))) | (apply rd_l; (focus exact xx)) | refine wh_seq ?_ | refine wh_skip ?_ | refine wh_block ?_ | refine wh_end ?_ | refine wh_exit ?_ | refine wh_ret ?_ | refine bk_norm ?_ | refine bk_exit ?_ | refine bk_ret ?_ | refine fr_exit ?_ | refine fr_ret ?_ | refine lp_exit ?_ | refine lp_ret ?_ | refine bk_other rfl ?_ | (apply wr; focus exact xx) | (apply wi; (focus exact xx); (focus exact xx); all_goals intro _; all_goals try first | contradiction | (exfalso; omega) | exact absurd trivial ‹_›) | refine wh_reg ?_ | refine wh_ife ?_ | (apply re; focus exact xx) | (apply rf; (focus exact xx); (focus exact xx); all_goals intro _; all_goals try first | contradiction | (exfalso; omega) | exact absurd trivial ‹_›) | (apply ra; (focus exact xx); (focus exact xx); intro _) | (apply r1; (focus exact xx); (focus exact xx); intro _) | (apply rl; (focus exact xx); (focus exact xx); intro _) | (apply rb; (focus exact xx); (focus exact xx); intro _) | (apply rsi; (focus exact xx); (focus exact xx); all_goals try infer_instance) | (apply rsz; (focus exact xx); (focus exact xx); all_goals try infer_instance) | (apply rt; (focus exact xx); (focus exact xx)) | (apply rso; (focus exact xx); (focus exact xx); all_goals try infer_instance) | (apply rmm; (focus exact xx); intro _) | (apply ru; (focus exact xx); (focus exact xx)) | (apply rm; (focus exact xx); (focus exact xx); intro _) | (apply rk; (focus exact xx); (focus exact xx); intro _) | (apply rc; (focus exact xx); (focus exact xx)) | (apply rk'; (focus exact xx); (focus exact xx))
    exact fz rfl
  rename_i hc
  have ha : smallF a 60 := by
    by_cases h : smallF a 60
    · exact h
    · exact absurd (.inl (.inr h)) hc
  have hbk : fbb a := small_fbb ha
  have oh' : hb h ∧ ∀ o ∈ h.flatten, o.v.length ≤ 1048576 := oh
  have c1 : ∃ F : Facts, ∃ e : Int, fle F ∧ inV (if rightB h then some (internF h) else none) = .tup [eFacts F, .int .i64 e] := by
    cases hr : rightB h with
    | false => exact ⟨default, 1, ⟨by decide, by decide, by decide⟩, rfl⟩
    | true =>
      refine ⟨internF h, 0, ⟨?_, ?_, Nat.zero_le _⟩, rfl⟩
      · have := in_vars_le h; have := b1.2; omega
      · have := intern_len h; have := b1.2; omega
  obtain ⟨F, e, hF, c1⟩ := c1
  have c2 : PCon T0 n.intern_Of [eH h] false True (.tup [eFacts F, .int .i64 e]) := ⟨fun _ => by have := (intern_Of h).con oh'; rw [c1] at this; exact this⟩
  have c3 : PCon T0 n.ref09_Of [eH h] false True (.tup [eFacts F, .int .i64 e]) := ⟨fun _ => by have := (ref09_Of h).con oh'; rw [c1] at this; exact this⟩
  have c4 : ∃ (g : List (List Op)) (q : Bool), hb g ∧ backV (backF a) = .tup [eH g, .bool q] := by
    cases hb' : backF a with
    | none => exact ⟨[], false, ⟨by decide, by decide⟩, rfl⟩
    | some g => exact ⟨g, true, back_hb hbk hb', rfl⟩
  obtain ⟨g, q, hg, c4⟩ := c4
  have c5 : PCon T0 n.intern_Back [eFacts a] true True (.tup [eH g, .bool q]) := ⟨fun _ => by have := (intern_Back a).con hbk; rw [c4] at this; exact this⟩
  have c6 : PCon T0 n.ref09_Back [eFacts a] true True (.tup [eH g, .bool q]) := ⟨fun _ => by have := (ref09_Back a).con hbk; rw [c4] at this; exact this⟩
  clear c1 c4
  repeat' first | (apply dr_fin; (focus exact xx)) | (apply dr_v; focus (apply DV.mk; (focus exact RF.mk rfl); (focus exact RF.mk rfl); (focus exact RF.mk rfl); (focus exact RF.mk rfl); (focus exact xx); focus (first | exact InD.no | (apply InD.so; (focus exact xx))))) | (apply dr_r; focus (apply DL.mk; (focus exact RF.mk rfl); (focus exact xx); (focus exact xx); focus (first | exact InD.no | (apply InD.so; (focus exact xx))))) | (apply dr_l; (focus exact RF.mk rfl); (focus exact RF.mk rfl); (focus exact RF.mk rfl); (focus exact RF.mk rfl); (focus exact RF.mk rfl)) | (apply dr_e; (focus exact RF.mk rfl); (focus exact RF.mk rfl); (focus exact RF.mk rfl); (focus exact RF.mk rfl)) | (apply rd_e; (focus exact xx); focus (repeat first | exact PO.nil | apply PO.zero | (apply PO.ld; (focus exact xx)))) | (apply rd_l; (focus exact xx)) | refine wh_seq ?_ | refine wh_skip ?_ | refine wh_block ?_ | refine wh_end ?_ | refine wh_exit ?_ | refine wh_ret ?_ | refine bk_norm ?_ | refine bk_exit ?_ | refine bk_ret ?_ | refine fr_exit ?_ | refine fr_ret ?_ | refine lp_exit ?_ | refine lp_ret ?_ | refine bk_other rfl ?_ | (apply wr; focus exact xx) | (apply wi; (focus exact xx); (focus exact xx); all_goals intro _; all_goals try first | contradiction | (exfalso; omega) | exact absurd trivial ‹_›) | refine wh_reg ?_ | refine wh_ife ?_ | (apply re; focus exact xx) | (apply rf; (focus exact xx); (focus exact xx); all_goals intro _; all_goals try first | contradiction | (exfalso; omega) | exact absurd trivial ‹_›) | (apply ra; (focus exact xx); (focus exact xx); intro _) | (apply r1; (focus exact xx); (focus exact xx); intro _) | (apply rl; (focus exact xx); (focus exact xx); intro _) | (apply rb; (focus exact xx); (focus exact xx); intro _) | (apply rsi; (focus exact xx); (focus exact xx); all_goals try infer_instance) | (apply rsz; (focus exact xx); (focus exact xx); all_goals try infer_instance) | (apply rt; (focus exact xx); (focus exact xx)) | (apply rso; (focus exact xx); (focus exact xx); all_goals try infer_instance) | (apply rmm; (focus exact xx); intro _) | (apply ru; (focus exact xx); (focus exact xx)) | (apply rm; (focus exact xx); (focus exact xx); intro _) | (apply rk; (focus exact xx); (focus exact xx); intro _) | (apply rc; (focus exact xx); (focus exact xx)) | (apply rk'; (focus exact xx); (focus exact xx))
  refine fz ?_
  simp⟩
end Go.AM

set_option linter.unusedVariables false
set_option linter.unusedSimpArgs false
namespace Go.AM
open Go.RowKit Go.Deep Go.Proofs
attribute [-simp] List.length_flatten List.map_flatten List.map_take List.map_map List.flatten_append
abbrev gOp : Op → Bool × List UInt8 × Int := fun x => (x.w, x.v, x.x)
abbrev EOp' : Enc Op := eStruct (fCons eBool (fCons eStr (fOne (eInt .i64)))) gOp
def wtOp (x : Op) : Nat := (1 + (x.v.length + 1 + 1)) + 1
def wfOp (x : Op) : Prop := True ∧ True ∧ (Lit.int IntKind.i64 x.x).wf = true
abbrev gItem : Item → Int × Int × Bool × Int × Int := fun t => (t.s, t.p, t.w, t.v, t.x)
abbrev EItem' : Enc Item := eStruct (fCons (eInt .i64) (fCons (eInt .i64) (fCons eBool (fCons (eInt .i64) (fOne (eInt .i64)))))) gItem
def wtItem (x : Item) : Nat := (1 + (1 + (1 + (1 + 1)))) + 1
def wfItem (x : Item) : Prop := (Lit.int IntKind.i64 x.s).wf = true ∧ (Lit.int IntKind.i64 x.p).wf = true ∧ True ∧ (Lit.int IntKind.i64 x.v).wf = true ∧ (Lit.int IntKind.i64 x.x).wf = true
abbrev gFacts : Facts → List (List UInt8) × List Item × List Int := fun f => (f.vars, f.items, f.from')
abbrev EFacts' : Enc Facts := eStruct (fCons (eList eStr) (fCons (eList EItem') (fOne (eList (eInt .i64))))) gFacts
def wtFacts (f : Facts) : Nat := ((wsum (fun s => s.length + 1) f.vars + 1) + ((wsum wtItem f.items + 1) + (wsum (fun _ => 1) f.from' + 1))) + 1
def wfFacts (f : Facts) : Prop := (∀ x ∈ f.vars, True) ∧ (∀ x ∈ f.items, wfItem x) ∧ ∀ x ∈ f.from', (Lit.int IntKind.i64 x).wf = true
theorem wsum_mem {α : Type} {wt : α → Nat} {l : List α} {x : α} (h : x ∈ l) : wt x ≤ wsum wt l := by
  induction l with
  | nil => cases h
  | cons a r ih =>
    simp only [wsum]
    rcases List.mem_cons.1 h with rfl | h
    · omega
    · have := ih h; omega
theorem wsum_len {α : Type} {wt : α → Nat} (h1 : ∀ x, 1 ≤ wt x) (l : List α) : l.length ≤ wsum wt l := by
  induction l with
  | nil => simp [wsum]
  | cons a r ih => simp only [wsum, List.length_cons]; have := h1 a; omega
theorem wsum_flat {α : Type} {wt : α → Nat} (h1 : ∀ x, 1 ≤ wt x) (h : List (List α)) : h.flatten.length ≤ wsum (fun l => wsum wt l + 1) h := by
  induction h with
  | nil => simp [wsum]
  | cons a r ih =>
    simp only [wsum, List.flatten_cons, List.length_append]
    have := wsum_len h1 a; omega
theorem okHa_of {h : List (List Op)} (hb : wsum (fun xs => wsum wtOp xs + 1) h + 1 ≤ 1048576) : okHa h := by
  have h1 : ∀ x, 1 ≤ wtOp x := fun x => by unfold wtOp; omega
  have h2 := wsum_flat h1 h
  have h3 := wsum_len (wt := fun l => wsum wtOp l + 1) (fun x => by omega) h
  refine ⟨⟨by omega, by omega⟩, fun o ho => ?_⟩
  obtain ⟨l, hl, ho⟩ := List.mem_flatten.1 ho
  have h4 := wsum_mem (wt := fun l => wsum wtOp l + 1) hl
  have h5 := wsum_mem (wt := wtOp) ho
  have h6 : o.v.length ≤ wtOp o := by unfold wtOp; omega
  omega
theorem okFa_of {f : Facts} (hb : wtFacts f ≤ 1048576) : okFa f := by
  unfold wtFacts at hb
  have h1 := wsum_len (wt := fun s : List UInt8 => s.length + 1) (fun x => by omega) f.vars
  have h2 := wsum_len (wt := wtItem) (fun x => by unfold wtItem; omega) f.items
  have h3 := wsum_len (wt := fun _ : Int => 1) (fun x => by omega) f.from'
  exact ⟨by omega, by omega, by omega⟩
theorem internTells_ok (h : List (List Op)) (a b : Facts) (hb : (fun xs => wsum (fun xs => wsum wtOp xs + 1) xs + 1) h + wtFacts a + wtFacts b ≤ 1048576) : okHa h ∧ okFa a ∧ okFa b := by
  simp only at hb
  exact ⟨okHa_of (by omega), okFa_of (by omega), okFa_of (by omega)⟩
end Go.AM

