/- Part ZC of the proof. -/
import Derived.Test.YtbjikpplkjeaiaaDoorZB
set_option linter.unusedVariables false
set_option linter.unusedSimpArgs false
namespace Go.AM
attribute [-simp] List.length_flatten List.map_flatten List.map_take List.map_map List.flatten_append
def smallF (f : Facts) (m : Int) : Prop := (f.vars.length : Int) ≤ m ∧ (f.items.length : Int) ≤ m ∧ (f.from'.length : Int) ≤ m ∧ (∀ v ∈ f.vars, v.length ≤ 20) ∧ ∀ x ∈ f.items, x.s ≤ 1000
instance (f : Facts) (m : Int) : Decidable (smallF f m) := by unfold smallF; infer_instance
instance ref09_Small (f : Facts) (m : Int) : PCon T0 n.ref09_Small [eFacts f, .int .i64 m] false (fle f) (.bool (decide (smallF f m))) := ⟨fun hb => by
  obtain ⟨h1, h2, h3⟩ := hb
  obtain ⟨fv, fi, ff'⟩ := f
  dsimp only at h1 h2 h3
  refine pc tabOk ?_
  repeat' first | refine wh_seq ?_ | refine wh_skip ?_ | refine wh_block ?_ | refine wh_end ?_ | refine wh_exit ?_ | refine wh_ret ?_ | refine bk_norm ?_ | refine bk_exit ?_ | refine bk_ret ?_ | refine fr_exit ?_ | refine fr_ret ?_ | refine lp_exit ?_ | refine lp_ret ?_ | refine bk_other rfl ?_ | (apply wr; focus exact xx) | (apply wi; (focus exact xx); (focus exact xx); all_goals intro _; all_goals try first | contradiction | (exfalso; omega) | exact absurd trivial ‹_›) | refine wh_reg ?_ | refine wh_raw ?_ | (apply dr_fin; (focus exact xx)) | (apply dr_v; (focus exact xd)) | (apply dr_r; (focus exact xd)) | (apply dr_l; (focus exact RF.mk rfl); (focus exact RF.mk rfl); (focus exact RF.mk rfl); (focus exact RF.mk rfl); (focus exact RF.mk rfl)) | (apply dr_e; (focus exact RF.mk rfl); (focus exact RF.mk rfl); (focus exact RF.mk rfl); (focus exact RF.mk rfl)) | (apply rd_e; (focus exact xx); (focus exact xd)) | (apply rd_l; (focus exact xx)) | refine wh_ife ?_ | (apply re; focus exact xx) | (apply rf; (focus exact xx); (focus exact xx); all_goals intro _; all_goals try first | contradiction | (exfalso; omega) | exact absurd trivial ‹_›) | (apply ra; (focus exact xx); (focus exact xx); intro _) | (apply r1; (focus exact xx); (focus exact xx); intro _) | (apply rl; (focus exact xx); (focus exact xx); intro _) | (apply rb; (focus exact xx); (focus exact xx); intro _) | (apply rt; (focus exact xx); (focus exact xx)) | (apply rsi; (focus exact xx); (focus exact xx)) | (apply rsz; (focus exact xx); (focus exact xx)) | (apply rso; (focus exact xx); (focus exact xx)) | (apply rmm; (focus exact xx); intro _) | (apply ru; (focus exact xx); (focus exact xx)) | (apply rm; (focus exact xx); (focus exact xx); intro _) | (apply rk; (focus exact xx); (focus exact xx); intro _) | (apply rc; (focus exact xx); (focus exact xx)) | (apply rk'; (focus exact xx); (focus exact xx))
  · refine fz (ff ?_)
    rintro ⟨a1, a2, a3, _, _⟩
    have a1 : (fv.length : Int) ≤ m := a1
    have a2 : (fi.length : Int) ≤ m := a2
    have a3 : (ff'.length : Int) ≤ m := a3
    omega
  rename_i id hc
  have hc : ¬ ((m < (fv.length : Int) ∨ m < (fi.length : Int)) ∨ m < (ff'.length : Int)) := hc
  refine wh_count fv.length (fun i A L => A = [(2, .ptr id 3 0 0), (5, .int .i64 (i : Nat))] ∧ L = [.ob id (.row 3 false [.agg [.lst (fv.map V.str), .lst (fi.map eItem), .lst (ff'.map eI)]])] ∧ ∀ v ∈ fv.take i, v.length ≤ 20) ⟨rfl, rfl, by simp⟩ ?_
  rintro i A L hi ⟨rfl, rfl, ha⟩
  repeat' first | refine wh_seq ?_ | refine wh_skip ?_ | refine wh_block ?_ | refine wh_end ?_ | refine wh_exit ?_ | refine wh_ret ?_ | refine bk_norm ?_ | refine bk_exit ?_ | refine bk_ret ?_ | refine fr_exit ?_ | refine fr_ret ?_ | refine lp_exit ?_ | refine lp_ret ?_ | refine bk_other rfl ?_ | (apply wr; focus exact xx) | (apply wi; (focus exact xx); (focus exact xx); all_goals intro _; all_goals try first | contradiction | (exfalso; omega) | exact absurd trivial ‹_›) | refine wh_reg ?_ | refine wh_raw ?_ | (apply dr_fin; (focus exact xx)) | (apply dr_v; (focus exact xd)) | (apply dr_r; (focus exact xd)) | (apply dr_l; (focus exact RF.mk rfl); (focus exact RF.mk rfl); (focus exact RF.mk rfl); (focus exact RF.mk rfl); (focus exact RF.mk rfl)) | (apply dr_e; (focus exact RF.mk rfl); (focus exact RF.mk rfl); (focus exact RF.mk rfl); (focus exact RF.mk rfl)) | (apply rd_e; (focus exact xx); (focus exact xd)) | (apply rd_l; (focus exact xx)) | refine wh_ife ?_ | (apply re; focus exact xx) | (apply rf; (focus exact xx); (focus exact xx); all_goals intro _; all_goals try first | contradiction | (exfalso; omega) | exact absurd trivial ‹_›) | (apply ra; (focus exact xx); (focus exact xx); intro _) | (apply r1; (focus exact xx); (focus exact xx); intro _) | (apply rl; (focus exact xx); (focus exact xx); intro _) | (apply rb; (focus exact xx); (focus exact xx); intro _) | (apply rt; (focus exact xx); (focus exact xx)) | (apply rsi; (focus exact xx); (focus exact xx)) | (apply rsz; (focus exact xx); (focus exact xx)) | (apply rso; (focus exact xx); (focus exact xx)) | (apply rmm; (focus exact xx); intro _) | (apply ru; (focus exact xx); (focus exact xx)) | (apply rm; (focus exact xx); (focus exact xx); intro _) | (apply rk; (focus exact xx); (focus exact xx); intro _) | (apply rc; (focus exact xx); (focus exact xx)) | (apply rk'; (focus exact xx); (focus exact xx))
  · rename_i k1 k2
    refine fz (ff ?_)
    rintro ⟨_, _, _, h, _⟩
    have := h _ (show nth fv i ∈ fv by rw [nth_eq (by omega)]; exact List.getElem_mem _)
    omega
  · rename_i k1 k2
    refine fr_next (by omega) sbc ⟨rfl, rfl, ?_⟩
    rw [take_nth (by omega)]
    intro v hv
    rcases List.mem_append.1 hv with hv | hv
    · exact ha v hv
    · rw [List.mem_singleton] at hv; subst hv; omega
  rw [show i = fv.length by omega, List.take_length] at ha
  refine wh_count fi.length (fun i A L => A = [(2, .ptr id 3 0 0), (6, .int .i64 (i : Nat))] ∧ L = [.ob id (.row 3 false [.agg [.lst (fv.map V.str), .lst (fi.map eItem), .lst (ff'.map eI)]])] ∧ ∀ x ∈ fi.take i, x.s ≤ 1000) ⟨rfl, rfl, by simp⟩ ?_
  rintro i A L hi ⟨rfl, rfl, hx⟩
  repeat' first | refine wh_seq ?_ | refine wh_skip ?_ | refine wh_block ?_ | refine wh_end ?_ | refine wh_exit ?_ | refine wh_ret ?_ | refine bk_norm ?_ | refine bk_exit ?_ | refine bk_ret ?_ | refine fr_exit ?_ | refine fr_ret ?_ | refine lp_exit ?_ | refine lp_ret ?_ | refine bk_other rfl ?_ | (apply wr; focus exact xx) | (apply wi; (focus exact xx); (focus exact xx); all_goals intro _; all_goals try first | contradiction | (exfalso; omega) | exact absurd trivial ‹_›) | refine wh_reg ?_ | refine wh_raw ?_ | (apply dr_fin; (focus exact xx)) | (apply dr_v; (focus exact xd)) | (apply dr_r; (focus exact xd)) | (apply dr_l; (focus exact RF.mk rfl); (focus exact RF.mk rfl); (focus exact RF.mk rfl); (focus exact RF.mk rfl); (focus exact RF.mk rfl)) | (apply dr_e; (focus exact RF.mk rfl); (focus exact RF.mk rfl); (focus exact RF.mk rfl); (focus exact RF.mk rfl)) | (apply rd_e; (focus exact xx); (focus exact xd)) | (apply rd_l; (focus exact xx)) | refine wh_ife ?_ | (apply re; focus exact xx) | (apply rf; (focus exact xx); (focus exact xx); all_goals intro _; all_goals try first | contradiction | (exfalso; omega) | exact absurd trivial ‹_›) | (apply ra; (focus exact xx); (focus exact xx); intro _) | (apply r1; (focus exact xx); (focus exact xx); intro _) | (apply rl; (focus exact xx); (focus exact xx); intro _) | (apply rb; (focus exact xx); (focus exact xx); intro _) | (apply rt; (focus exact xx); (focus exact xx)) | (apply rsi; (focus exact xx); (focus exact xx)) | (apply rsz; (focus exact xx); (focus exact xx)) | (apply rso; (focus exact xx); (focus exact xx)) | (apply rmm; (focus exact xx); intro _) | (apply ru; (focus exact xx); (focus exact xx)) | (apply rm; (focus exact xx); (focus exact xx); intro _) | (apply rk; (focus exact xx); (focus exact xx); intro _) | (apply rc; (focus exact xx); (focus exact xx)) | (apply rk'; (focus exact xx); (focus exact xx))
  · rename_i k1 k2
    refine fz (ff ?_)
    rintro ⟨_, _, _, _, h⟩
    have := h _ (show nth fi i ∈ fi by rw [nth_eq (by omega)]; exact List.getElem_mem _)
    omega
  · rename_i k1 k2
    refine fr_next (by omega) sbc ⟨rfl, rfl, ?_⟩
    rw [take_nth (by omega)]
    intro v hv
    rcases List.mem_append.1 hv with hv | hv
    · exact hx v hv
    · rw [List.mem_singleton] at hv; subst hv; omega
  · rw [show i = fi.length by omega, List.take_length] at hx
    refine fz (tt ?_)
    exact ⟨by show (fv.length : Int) ≤ m; omega, by show (fi.length : Int) ≤ m; omega, by show (ff'.length : Int) ≤ m; omega, ha, hx⟩⟩
set_option maxHeartbeats 4000000 in
instance ref09_Of (h : List (List Op)) : PCon T0 n.ref09_Of [eH h] false (hb h ∧ ∀ o ∈ h.flatten, o.v.length ≤ 1048576) (inV (if rightB h then some (internF h) else none)) := ⟨fun ⟨b, bn⟩ => by
  refine pc tabOk ?_
  have hn := b.1
  repeat' first | refine wh_seq ?_ | refine wh_skip ?_ | refine wh_block ?_ | refine wh_end ?_ | refine wh_exit ?_ | refine wh_ret ?_ | refine bk_norm ?_ | refine bk_exit ?_ | refine bk_ret ?_ | refine fr_exit ?_ | refine fr_ret ?_ | refine lp_exit ?_ | refine lp_ret ?_ | refine bk_other rfl ?_ | (apply wr; focus exact xx) | (apply wi; (focus exact xx); (focus exact xx); all_goals intro _; all_goals try first | contradiction | (exfalso; omega) | exact absurd trivial ‹_›) | refine wh_reg ?_ | refine wh_raw ?_ | (apply dr_fin; (focus exact xx)) | (apply dr_v; (focus exact xd)) | (apply dr_r; (focus exact xd)) | (apply dr_l; (focus exact RF.mk rfl); (focus exact RF.mk rfl); (focus exact RF.mk rfl); (focus exact RF.mk rfl); (focus exact RF.mk rfl)) | (apply dr_e; (focus exact RF.mk rfl); (focus exact RF.mk rfl); (focus exact RF.mk rfl); (focus exact RF.mk rfl)) | (apply rd_e; (focus exact xx); (focus exact xd)) | (apply rd_l; (focus exact xx)) | refine wh_ife ?_ | (apply re; focus exact xx) | (apply rf; (focus exact xx); (focus exact xx); all_goals intro _; all_goals try first | contradiction | (exfalso; omega) | exact absurd trivial ‹_›) | (apply ra; (focus exact xx); (focus exact xx); intro _) | (apply r1; (focus exact xx); (focus exact xx); intro _) | (apply rl; (focus exact xx); (focus exact xx); intro _) | (apply rb; (focus exact xx); (focus exact xx); intro _) | (apply rt; (focus exact xx); (focus exact xx)) | (apply rsi; (focus exact xx); (focus exact xx)) | (apply rsz; (focus exact xx); (focus exact xx)) | (apply rso; (focus exact xx); (focus exact xx)) | (apply rmm; (focus exact xx); intro _) | (apply ru; (focus exact xx); (focus exact xx)) | (apply rm; (focus exact xx); (focus exact xx); intro _) | (apply rk; (focus exact xx); (focus exact xx); intro _) | (apply rc; (focus exact xx); (focus exact xx)) | (apply rk'; (focus exact xx); (focus exact xx))
  · rename_i hr
    rw [if_neg hr]; exact fz rfl
  rename_i i2 hr i4
  rw [if_pos (by simpa using hr)]
  refine wn 1 true ?_
  refine wn 5 true ?_
  refine wh_count h.length (fun i A L => ∃ g0 g1, A = [(0, eH h), (2, .ptr i2 3 0 0), (4, .ptr i4 3 0 0), (5, .int .i64 (i : Nat))] ∧ L = [.own g1 5 true ((internS (preOps h i)).2.map eItem), .own g0 1 true ((internS (preOps h i)).1.map V.str), .ob i4 (.row 3 false [.agg [Hd.v g0, Hd.v g1, .nil]]), .ob i2 (.row 3 false [.agg [.nil, .nil, .nil]])]) ⟨.nil, .nil, rfl, rfl⟩ ?_
  rintro i A L hi ⟨g0, g1, rfl, rfl⟩
  repeat' first | refine wh_seq ?_ | refine wh_skip ?_ | refine wh_block ?_ | refine wh_end ?_ | refine wh_exit ?_ | refine wh_ret ?_ | refine bk_norm ?_ | refine bk_exit ?_ | refine bk_ret ?_ | refine fr_exit ?_ | refine fr_ret ?_ | refine lp_exit ?_ | refine lp_ret ?_ | refine bk_other rfl ?_ | (apply wr; focus exact xx) | (apply wi; (focus exact xx); (focus exact xx); all_goals intro _; all_goals try first | contradiction | (exfalso; omega) | exact absurd trivial ‹_›) | refine wh_reg ?_ | refine wh_raw ?_ | (apply dr_fin; (focus exact xx)) | (apply dr_v; (focus exact xd)) | (apply dr_r; (focus exact xd)) | (apply dr_l; (focus exact RF.mk rfl); (focus exact RF.mk rfl); (focus exact RF.mk rfl); (focus exact RF.mk rfl); (focus exact RF.mk rfl)) | (apply dr_e; (focus exact RF.mk rfl); (focus exact RF.mk rfl); (focus exact RF.mk rfl); (focus exact RF.mk rfl)) | (apply rd_e; (focus exact xx); (focus exact xd)) | (apply rd_l; (focus exact xx)) | refine wh_ife ?_ | (apply re; focus exact xx) | (apply rf; (focus exact xx); (focus exact xx); all_goals intro _; all_goals try first | contradiction | (exfalso; omega) | exact absurd trivial ‹_›) | (apply ra; (focus exact xx); (focus exact xx); intro _) | (apply r1; (focus exact xx); (focus exact xx); intro _) | (apply rl; (focus exact xx); (focus exact xx); intro _) | (apply rb; (focus exact xx); (focus exact xx); intro _) | (apply rt; (focus exact xx); (focus exact xx)) | (apply rsi; (focus exact xx); (focus exact xx)) | (apply rsz; (focus exact xx); (focus exact xx)) | (apply rso; (focus exact xx); (focus exact xx)) | (apply rmm; (focus exact xx); intro _) | (apply ru; (focus exact xx); (focus exact xx)) | (apply rm; (focus exact xx); (focus exact xx); intro _) | (apply rk; (focus exact xx); (focus exact xx); intro _) | (apply rc; (focus exact xx); (focus exact xx)) | (apply rk'; (focus exact xx); (focus exact xx))
  · refine wh_count (nth h i).length (fun j A L => ∃ g0 g1, A = [(0, eH h), (2, .ptr i2 3 0 0), (4, .ptr i4 3 0 0), (5, .int .i64 (i : Nat)), (6, .int .i64 (j : Nat))] ∧ L = [.own g1 5 true ((internS (preOps h i ++ rowOps i (nth h i) j)).2.map eItem), .own g0 1 true ((internS (preOps h i ++ rowOps i (nth h i) j)).1.map V.str), .ob i4 (.row 3 false [.agg [Hd.v g0, Hd.v g1, .nil]]), .ob i2 (.row 3 false [.agg [.nil, .nil, .nil]])]) ⟨g0, g1, rfl, by simp [rowOps]⟩ ?_
    rintro j A L hj ⟨g0, g1, rfl, rfl⟩
    have hlt : i < h.length := by omega
    have hfl := flat_len hlt
    have hfb := b.2
    have hln := inS_len (preOps h i ++ rowOps i (nth h i) j)
    rw [List.length_append, preOps_len (by omega), rowOps_len] at hln
    have hsn : ∀ P, P = preOps h i ++ rowOps i (nth h i) j → preOps h i ++ rowOps i (nth h i) (j + 1) = P ++ [(i, j, nth (nth h i) j)] := by
      rintro P rfl; rw [rowOps_succ, List.append_assoc]
    generalize hP : preOps h i ++ rowOps i (nth h i) j = P at *
    have hsn := hsn P rfl
    by_cases hmem : (nth (nth h i) j).v ∈ (internS P).1
    · have hf : findI (internS P).1 (nth (nth h i) j).v = ((internS P).1.idxOf (nth (nth h i) j).v : Nat) := by rw [findI, if_pos hmem]
      have c1 : PCon T0 n.ref09_find [eStrs (internS P).1, .str (nth (nth h i) j).v] false ((internS P).1.length ≤ 1048576) (.int .i64 ((internS P).1.idxOf (nth (nth h i) j).v : Nat)) := by rw [← hf]; infer_instance
      repeat' first | refine wh_seq ?_ | refine wh_skip ?_ | refine wh_block ?_ | refine wh_end ?_ | refine wh_exit ?_ | refine wh_ret ?_ | refine bk_norm ?_ | refine bk_exit ?_ | refine bk_ret ?_ | refine fr_exit ?_ | refine fr_ret ?_ | refine lp_exit ?_ | refine lp_ret ?_ | refine bk_other rfl ?_ | (apply wr; focus exact xx) | (apply wi; (focus exact xx); (focus exact xx); all_goals intro _; all_goals try first | contradiction | (exfalso; omega) | exact absurd trivial ‹_›) | refine wh_reg ?_ | refine wh_raw ?_ | (apply dr_fin; (focus exact xx)) | (apply dr_v; (focus exact xd)) | (apply dr_r; (focus exact xd)) | (apply dr_l; (focus exact RF.mk rfl); (focus exact RF.mk rfl); (focus exact RF.mk rfl); (focus exact RF.mk rfl); (focus exact RF.mk rfl)) | (apply dr_e; (focus exact RF.mk rfl); (focus exact RF.mk rfl); (focus exact RF.mk rfl); (focus exact RF.mk rfl)) | (apply rd_e; (focus exact xx); (focus exact xd)) | (apply rd_l; (focus exact xx)) | refine wh_ife ?_ | (apply re; focus exact xx) | (apply rf; (focus exact xx); (focus exact xx); all_goals intro _; all_goals try first | contradiction | (exfalso; omega) | exact absurd trivial ‹_›) | (apply ra; (focus exact xx); (focus exact xx); intro _) | (apply r1; (focus exact xx); (focus exact xx); intro _) | (apply rl; (focus exact xx); (focus exact xx); intro _) | (apply rb; (focus exact xx); (focus exact xx); intro _) | (apply rt; (focus exact xx); (focus exact xx)) | (apply rsi; (focus exact xx); (focus exact xx)) | (apply rsz; (focus exact xx); (focus exact xx)) | (apply rso; (focus exact xx); (focus exact xx)) | (apply rmm; (focus exact xx); intro _) | (apply ru; (focus exact xx); (focus exact xx)) | (apply rm; (focus exact xx); (focus exact xx); intro _) | (apply rk; (focus exact xx); (focus exact xx); intro _) | (apply rc; (focus exact xx); (focus exact xx)) | (apply rk'; (focus exact xx); (focus exact xx))
      · exact fr_next (by omega) (List.drop_sublist 2 _) ⟨g0, _, rfl, by rw [hsn, in_old hmem, List.map_append]; rfl⟩
      · obtain rfl : j = (nth h i).length := by omega
        exact fr_next (by omega) sbc ⟨g0, g1, rfl, by rw [preOps_succ, hP]⟩
    · have hf : findI (internS P).1 (nth (nth h i) j).v = -1 := by rw [findI, if_neg hmem]
      have c1 : PCon T0 n.ref09_find [eStrs (internS P).1, .str (nth (nth h i) j).v] false ((internS P).1.length ≤ 1048576) (.int .i64 (-1)) := by rw [← hf]; infer_instance
      repeat' first | refine wh_seq ?_ | refine wh_skip ?_ | refine wh_block ?_ | refine wh_end ?_ | refine wh_exit ?_ | refine wh_ret ?_ | refine bk_norm ?_ | refine bk_exit ?_ | refine bk_ret ?_ | refine fr_exit ?_ | refine fr_ret ?_ | refine lp_exit ?_ | refine lp_ret ?_ | refine bk_other rfl ?_ | (apply wr; focus exact xx) | (apply wi; (focus exact xx); (focus exact xx); all_goals intro _; all_goals try first | contradiction | (exfalso; omega) | exact absurd trivial ‹_›) | refine wh_reg ?_ | refine wh_raw ?_ | (apply dr_fin; (focus exact xx)) | (apply dr_v; (focus exact xd)) | (apply dr_r; (focus exact xd)) | (apply dr_l; (focus exact RF.mk rfl); (focus exact RF.mk rfl); (focus exact RF.mk rfl); (focus exact RF.mk rfl); (focus exact RF.mk rfl)) | (apply dr_e; (focus exact RF.mk rfl); (focus exact RF.mk rfl); (focus exact RF.mk rfl); (focus exact RF.mk rfl)) | (apply rd_e; (focus exact xx); (focus exact xd)) | (apply rd_l; (focus exact xx)) | refine wh_ife ?_ | (apply re; focus exact xx) | (apply rf; (focus exact xx); (focus exact xx); all_goals intro _; all_goals try first | contradiction | (exfalso; omega) | exact absurd trivial ‹_›) | (apply ra; (focus exact xx); (focus exact xx); intro _) | (apply r1; (focus exact xx); (focus exact xx); intro _) | (apply rl; (focus exact xx); (focus exact xx); intro _) | (apply rb; (focus exact xx); (focus exact xx); intro _) | (apply rt; (focus exact xx); (focus exact xx)) | (apply rsi; (focus exact xx); (focus exact xx)) | (apply rsz; (focus exact xx); (focus exact xx)) | (apply rso; (focus exact xx); (focus exact xx)) | (apply rmm; (focus exact xx); intro _) | (apply ru; (focus exact xx); (focus exact xx)) | (apply rm; (focus exact xx); (focus exact xx); intro _) | (apply rk; (focus exact xx); (focus exact xx); intro _) | (apply rc; (focus exact xx); (focus exact xx)) | (apply rk'; (focus exact xx); (focus exact xx))
      · exact fr_next (by omega) (List.drop_sublist 3 _) ⟨_, _, rfl, by rw [hsn, in_new hmem, List.map_append, List.map_append]; rfl⟩
      · obtain rfl : j = (nth h i).length := by omega
        exact fr_next (by omega) sbc ⟨g0, g1, rfl, by rw [preOps_succ, hP]⟩
  · obtain rfl : i = h.length := by omega
    exact fz rfl⟩
end Go.AM

set_option linter.unusedVariables false
set_option linter.unusedSimpArgs false
namespace Go.AM
attribute [-simp] List.length_flatten List.map_flatten List.map_take List.map_map List.flatten_append
/-! Facts laid out again. -/
def padTo (h : List (List Op)) (n : Nat) : List (List Op) := h ++ List.replicate (n - h.length) []
def put1 (h : List (List Op)) (s : Nat) (o : Op) : List (List Op) := (padTo h (s + 1)).set s (nth (padTo h (s + 1)) s ++ [o])
def opOf (vars : List (List UInt8)) (x : Item) : Op := ⟨x.w, nth vars x.v.toNat, x.x⟩
def layB (vars : List (List UInt8)) (items : List Item) : List (List Op) := items.foldl (fun h x => put1 h x.s.toNat (opOf vars x)) []
def okI (vars : List (List UInt8)) (x : Item) : Prop := 0 ≤ x.s ∧ 0 ≤ x.v ∧ x.v < (vars.length : Int)
instance (vars : List (List UInt8)) (x : Item) : Decidable (okI vars x) := by unfold okI; infer_instance
def backF (f : Facts) : Option (List (List Op)) := if (∀ x ∈ f.items, okI f.vars x) ∧ rightB (layB f.vars f.items) = true ∧ (internF (layB f.vars f.items)).vars = f.vars ∧ (internF (layB f.vars f.items)).items = f.items then some (layB f.vars f.items) else none
def backV : Option (List (List Op)) → V
  | some h => .tup [eH h, .bool true]
  | none => .tup [.lst [], .bool false]
theorem pad_len (h : List (List Op)) (n : Nat) : (padTo h n).length = max h.length n := by simp [padTo]; omega
theorem put_len (h : List (List Op)) (s : Nat) (o : Op) : (put1 h s o).length = max h.length (s + 1) := by simp [put1, pad_len]
theorem lay_succ {vars : List (List UInt8)} {items : List Item} {i : Nat} (hi : i < items.length) : layB vars (items.take (i + 1)) = put1 (layB vars (items.take i)) (nth items i).s.toNat (opOf vars (nth items i)) := by
  rw [take_nth hi, layB, List.foldl_append]; rfl
theorem pad_flat (h : List (List Op)) (n : Nat) : (padTo h n).flatten = h.flatten := by simp [padTo, List.flatten_append]
theorem mem_flat_set {h : List (List Op)} {s : Nat} {o : Op} (hs : s < h.length) : (h.set s (nth h s ++ [o])).flatten.length = h.flatten.length + 1 ∧ ∀ q ∈ (h.set s (nth h s ++ [o])).flatten, q ∈ h.flatten ∨ q = o := by
  have e1 : h = h.take s ++ nth h s :: h.drop (s + 1) := by
    conv => lhs; rw [← List.take_append_drop s h]
    rw [nth_eq hs, List.drop_eq_getElem_cons hs]
  have e2 : h.set s (nth h s ++ [o]) = h.take s ++ (nth h s ++ [o]) :: h.drop (s + 1) := by
    rw [List.set_eq_take_append_cons_drop, if_pos hs]
  constructor
  · rw [e2]
    conv => rhs; rw [e1]
    simp only [List.flatten_append, List.flatten_cons, List.length_append, List.length_cons, List.length_nil]; omega
  · intro q hq
    rw [e2] at hq
    rw [e1]
    simp only [List.flatten_append, List.flatten_cons, List.mem_append, List.mem_singleton] at hq ⊢
    rcases hq with h | (h | h) | h <;> simp [h]
theorem put_flat (h : List (List Op)) (s : Nat) (o : Op) : (put1 h s o).flatten.length = h.flatten.length + 1 ∧ ∀ q ∈ (put1 h s o).flatten, q ∈ h.flatten ∨ q = o := by
  have := mem_flat_set (h := padTo h (s + 1)) (s := s) (o := o) (by rw [pad_len]; omega)
  rw [pad_flat] at this
  exact this
theorem lay_flat {vars : List (List UInt8)} : ∀ (items : List Item) {m : Nat}, 1 ≤ m → (∀ x ∈ items, x.s < (m : Int)) → (layB vars items).flatten.length = items.length ∧ (∀ q ∈ (layB vars items).flatten, ∃ x ∈ items, q = opOf vars x) ∧ (layB vars items).length ≤ m := by
  intro items m hm0 hm
  have key : ∀ i, i ≤ items.length → (layB vars (items.take i)).flatten.length = i ∧ (∀ q ∈ (layB vars (items.take i)).flatten, ∃ x ∈ items, q = opOf vars x) ∧ (layB vars (items.take i)).length ≤ m := by
    intro i
    induction i with
    | zero => intro _; simp [layB]
    | succ i ih =>
      intro hi
      obtain ⟨h1, h2, h3⟩ := ih (by omega)
      have hx : nth items i ∈ items := by rw [nth_eq (by omega)]; exact List.getElem_mem _
      have hms := hm _ hx
      rw [lay_succ (by omega)]
      refine ⟨by rw [(put_flat _ _ _).1, h1], fun q hq => ?_, by rw [put_len]; omega⟩
      rcases (put_flat _ _ _).2 q hq with h | h
      · exact h2 q h
      · exact ⟨_, hx, h⟩
  have := key items.length (by omega)
  rwa [List.take_length] at this
def fbb (f : Facts) : Prop := f.vars.length ≤ 1048576 ∧ f.items.length ≤ 1048576 ∧ f.from'.length ≤ 1048576 ∧ (∀ x ∈ f.items, x.s < (1048576 : Nat)) ∧ ∀ v ∈ f.vars, v.length ≤ 1048576
theorem lay_ok {f : Facts} (hb' : fbb f) (hk : ∀ x ∈ f.items, okI f.vars x) : hb (layB f.vars f.items) ∧ ∀ o ∈ (layB f.vars f.items).flatten, o.v.length ≤ 1048576 := by
  obtain ⟨h1, h2, h3, h4, h5⟩ := hb'
  obtain ⟨k1, k2, k3⟩ := lay_flat (vars := f.vars) f.items (by decide) h4
  refine ⟨⟨k3, by omega⟩, fun o ho => ?_⟩
  obtain ⟨x, hx, rfl⟩ := k2 o ho
  have := hk x hx
  exact h5 _ (by show nth f.vars x.v.toNat ∈ f.vars; rw [nth_eq (by have := this.2; omega)]; exact List.getElem_mem _)
theorem map_set_c {α : Type} {es : List (NE α)} {i : Nat} {e : NE α} : (es.set i e).map NE.c = (es.map NE.c).set i e.c := by rw [List.map_set]
theorem nth_map {α β : Type} [Inhabited α] [Inhabited β] {l : List α} {g : α → β} {i : Nat} (h : i < l.length) : nth (l.map g) i = g (nth l i) := by
  rw [nth_eq (by simpa using h), nth_eq h]; simp
def allRow (es : List (NE Op)) : Prop := ∀ i, i < es.length → ∃ g xs, nth es i = .row g xs
theorem allRow_snoc {es : List (NE Op)} (h : allRow es) : allRow (es ++ [.row .nil []]) := fun i hi => by
  by_cases h1 : i < es.length
  · rw [nth_lo h1]; exact h i h1
  · rw [nth_hi (by omega) (by simpa using hi)]
    have : i - es.length = 0 := by simp at hi; omega
    rw [this]; exact ⟨.nil, [], rfl⟩
theorem allRow_set {es : List (NE Op)} {s : Nat} {g : Hd} {xs : List Op} (h : allRow es) : allRow (es.set s (.row g xs)) := fun i hi => by
  rw [List.length_set] at hi
  rw [nth_eq (by simpa using hi), List.getElem_set]
  split
  · exact ⟨g, xs, rfl⟩
  · obtain ⟨g, xs, h⟩ := h i hi
    exact ⟨g, xs, by rw [← h, nth_eq hi]⟩
theorem pad_more {h : List (List Op)} {es : List (NE Op)} (he : es.map NE.c = padTo h es.length) (hl : h.length ≤ es.length) : (es ++ [NE.row .nil []]).map NE.c = padTo h (es.length + 1) := by
  rw [List.map_append, he, padTo, padTo, show es.length + 1 - h.length = (es.length - h.length) + 1 by omega, List.replicate_succ', List.append_assoc]; rfl
theorem pad_self (h : List (List Op)) : padTo h h.length = h := by simp [padTo]

end Go.AM

set_option linter.unusedVariables false
set_option linter.unusedSimpArgs false
namespace Go.AM
attribute [-simp] List.length_flatten List.map_flatten List.map_take List.map_map List.flatten_append
theorem in_vars_le (h : List (List Op)) : (internF h).vars.length ≤ h.flatten.length := by
  show (internS (preOps h h.length)).1.length ≤ _
  have := (inS_len (preOps h h.length)).2
  rw [preOps_len (by omega), List.take_length] at this
  exact this
theorem pm_last {P R : List HE} {e : HE} : List.Perm (e :: (P ++ R)) (P ++ (R ++ [e])) := by
  rw [← List.append_assoc]; exact (List.perm_append_singleton e (P ++ R)).symm
set_option maxHeartbeats 4000000 in
instance ref09_Back (f : Facts) : PCon T0 n.ref09_Back [eFacts f] true (fbb f) (backV (backF f)) := ⟨fun hb0 => by
  have hlay := fun hk => lay_ok hb0 hk
  obtain ⟨h1, h2, h3, h4, h5⟩ := hb0
  refine pc tabOk ?_
  repeat' first | (apply dr_fin; (focus exact xx)) | (apply dr_v; focus (apply DV.mk; (focus exact RF.mk rfl); (focus exact RF.mk rfl); (focus exact RF.mk rfl); (focus exact RF.mk rfl); (focus exact xx); focus (first | exact InD.no | (apply InD.so; (focus exact xx))))) | (apply dr_r; focus (apply DL.mk; (focus exact RF.mk rfl); (focus exact xx); (focus exact xx); focus (first | exact InD.no | (apply InD.so; (focus exact xx))))) | (apply dr_l; (focus exact RF.mk rfl); (focus exact RF.mk rfl); (focus exact RF.mk rfl); (focus exact RF.mk rfl); (focus exact RF.mk rfl)) | (apply dr_e; (focus exact RF.mk rfl); (focus exact RF.mk rfl); (focus exact RF.mk rfl); (focus exact RF.mk rfl)) | (apply rd_e; (focus exact xx); focus (repeat first | exact PO.nil | apply PO.zero | (apply PO.ld; (focus exact xx)))) | (apply rd_l; (focus exact xx)) | refine wh_seq ?_ | refine wh_skip ?_ | refine wh_block ?_ | refine wh_end ?_ | refine wh_exit ?_ | refine wh_ret ?_ | refine bk_norm ?_ | refine bk_exit ?_ | refine bk_ret ?_ | refine fr_exit ?_ | refine fr_ret ?_ | refine lp_exit ?_ | refine lp_ret ?_ | refine bk_other rfl ?_ | (apply wr; focus exact xx) | (apply wi; (focus exact xx); (focus exact xx); all_goals intro _; all_goals try first | contradiction | (exfalso; omega) | exact absurd trivial ‹_›) | refine wh_reg ?_ | refine wh_ife ?_ | (apply re; focus exact xx) | (apply rf; (focus exact xx); (focus exact xx); all_goals intro _; all_goals try first | contradiction | (exfalso; omega) | exact absurd trivial ‹_›) | (apply ra; (focus exact xx); (focus exact xx); intro _) | (apply r1; (focus exact xx); (focus exact xx); intro _) | (apply rl; (focus exact xx); (focus exact xx); intro _) | (apply rb; (focus exact xx); (focus exact xx); intro _) | (apply rsi; (focus exact xx); (focus exact xx); all_goals try infer_instance) | (apply rsz; (focus exact xx); (focus exact xx); all_goals try infer_instance) | (apply rt; (focus exact xx); (focus exact xx)) | (apply rso; (focus exact xx); (focus exact xx); all_goals try infer_instance) | (apply rmm; (focus exact xx); intro _) | (apply ru; (focus exact xx); (focus exact xx)) | (apply rm; (focus exact xx); (focus exact xx); intro _) | (apply rk; (focus exact xx); (focus exact xx); intro _) | (apply rc; (focus exact xx); (focus exact xx)) | (apply rk'; (focus exact xx); (focus exact xx))
  rename_i i1
  refine wn 1 false ?_
  refine wh_count f.items.length (fun i A L => ∃ g es, allRow es ∧ es.map NE.c = layB f.vars (f.items.take i) ∧ (∀ x ∈ f.items.take i, okI f.vars x) ∧ A = [(1, .ptr i1 3 0 0), (4, Hd.v g), (5, .int .i64 (i : Nat))] ∧ L = .own g 1 false (es.map (NE.v eOp)) :: .ob i1 (.row 3 false [eFacts f]) :: rows 3 true eOp es) ⟨.nil, [], fun i hi => by simp at hi, rfl, by simp, rfl, rfl⟩ ?_
  rintro i A L hi ⟨g, es, har, hes, hok, rfl, rfl⟩
  by_cases hlt : i < f.items.length
  · have hxm : nth f.items i ∈ f.items := by rw [nth_eq hlt]; exact List.getElem_mem _
    have hxs := h4 _ hxm
    repeat' first | (apply dr_fin; (focus exact xx)) | (apply dr_v; focus (apply DV.mk; (focus exact RF.mk rfl); (focus exact RF.mk rfl); (focus exact RF.mk rfl); (focus exact RF.mk rfl); (focus exact xx); focus (first | exact InD.no | (apply InD.so; (focus exact xx))))) | (apply dr_r; focus (apply DL.mk; (focus exact RF.mk rfl); (focus exact xx); (focus exact xx); focus (first | exact InD.no | (apply InD.so; (focus exact xx))))) | (apply dr_l; (focus exact RF.mk rfl); (focus exact RF.mk rfl); (focus exact RF.mk rfl); (focus exact RF.mk rfl); (focus exact RF.mk rfl)) | (apply dr_e; (focus exact RF.mk rfl); (focus exact RF.mk rfl); (focus exact RF.mk rfl); (focus exact RF.mk rfl)) | (apply rd_e; (focus exact xx); focus (repeat first | exact PO.nil | apply PO.zero | (apply PO.ld; (focus exact xx)))) | (apply rd_l; (focus exact xx)) | refine wh_seq ?_ | refine wh_skip ?_ | refine wh_block ?_ | refine wh_end ?_ | refine wh_exit ?_ | refine wh_ret ?_ | refine bk_norm ?_ | refine bk_exit ?_ | refine bk_ret ?_ | refine fr_exit ?_ | refine fr_ret ?_ | refine lp_exit ?_ | refine lp_ret ?_ | refine bk_other rfl ?_ | (apply wr; focus exact xx) | (apply wi; (focus exact xx); (focus exact xx); all_goals intro _; all_goals try first | contradiction | (exfalso; omega) | exact absurd trivial ‹_›) | refine wh_reg ?_ | refine wh_ife ?_ | (apply re; focus exact xx) | (apply rf; (focus exact xx); (focus exact xx); all_goals intro _; all_goals try first | contradiction | (exfalso; omega) | exact absurd trivial ‹_›) | (apply ra; (focus exact xx); (focus exact xx); intro _) | (apply r1; (focus exact xx); (focus exact xx); intro _) | (apply rl; (focus exact xx); (focus exact xx); intro _) | (apply rb; (focus exact xx); (focus exact xx); intro _) | (apply rsi; (focus exact xx); (focus exact xx); all_goals try infer_instance) | (apply rsz; (focus exact xx); (focus exact xx); all_goals try infer_instance) | (apply rt; (focus exact xx); (focus exact xx)) | (apply rso; (focus exact xx); (focus exact xx); all_goals try infer_instance) | (apply rmm; (focus exact xx); intro _) | (apply ru; (focus exact xx); (focus exact xx)) | (apply rm; (focus exact xx); (focus exact xx); intro _) | (apply rk; (focus exact xx); (focus exact xx); intro _) | (apply rc; (focus exact xx); (focus exact xx)) | (apply rk'; (focus exact xx); (focus exact xx))
    · rename_i hbad
      refine fz ?_
      have : backF f = none := by
        unfold backF
        rw [if_neg]
        rintro ⟨hk, _⟩
        have := hk _ hxm
        simp only [okI] at this
        omega
      rw [this]; rfl
    rename_i i6 hgood
    have hx : okI f.vars (nth f.items i) := by simp only [okI]; omega
    generalize hX : nth f.items i = x at *
    have hel : es.length = (layB f.vars (f.items.take i)).length := by rw [← hes, List.length_map]
    have hel2 : es.length ≤ 1048576 := by
      rw [hel]; exact (lay_flat (vars := f.vars) (f.items.take i) (m := 1048576) (by decide) fun y hy => h4 y (List.mem_of_mem_take hy)).2.2
    refine wh_loop (fun m A L => ∃ g es', allRow es' ∧ es'.map NE.c = padTo (layB f.vars (f.items.take i)) es'.length ∧ es.length ≤ es'.length ∧ es'.length ≤ 1048576 ∧ (es'.length = es.length ∨ (es'.length : Int) ≤ x.s + 1) ∧ m = (x.s + 1 - es'.length).toNat ∧ A = [(1, .ptr i1 3 0 0), (4, Hd.v g), (5, .int .i64 (i : Nat)), (6, .ptr i6 5 0 0)] ∧ L = .ob i6 (.row 5 true [eItem x]) :: .own g 1 false (es'.map (NE.v eOp)) :: .ob i1 (.row 3 false [eFacts f]) :: rows 3 true eOp es') _ ⟨g, es, har, by rw [hel, pad_self]; exact hes, by omega, hel2, .inl rfl, rfl, rfl, rfl⟩ ?_
    rintro m A L ⟨g, es', har, hes', hle, hle2, hmx, rfl, rfl, rfl⟩
    refine wn 3 true ?_
    repeat' first | (apply dr_fin; (focus exact xx)) | (apply dr_v; focus (apply DV.mk; (focus exact RF.mk rfl); (focus exact RF.mk rfl); (focus exact RF.mk rfl); (focus exact RF.mk rfl); (focus exact xx); focus (first | exact InD.no | (apply InD.so; (focus exact xx))))) | (apply dr_r; focus (apply DL.mk; (focus exact RF.mk rfl); (focus exact xx); (focus exact xx); focus (first | exact InD.no | (apply InD.so; (focus exact xx))))) | (apply dr_l; (focus exact RF.mk rfl); (focus exact RF.mk rfl); (focus exact RF.mk rfl); (focus exact RF.mk rfl); (focus exact RF.mk rfl)) | (apply dr_e; (focus exact RF.mk rfl); (focus exact RF.mk rfl); (focus exact RF.mk rfl); (focus exact RF.mk rfl)) | (apply rd_e; (focus exact xx); focus (repeat first | exact PO.nil | apply PO.zero | (apply PO.ld; (focus exact xx)))) | (apply rd_l; (focus exact xx)) | refine wh_seq ?_ | refine wh_skip ?_ | refine wh_block ?_ | refine wh_end ?_ | refine wh_exit ?_ | refine wh_ret ?_ | refine bk_norm ?_ | refine bk_exit ?_ | refine bk_ret ?_ | refine fr_exit ?_ | refine fr_ret ?_ | refine lp_exit ?_ | refine lp_ret ?_ | refine bk_other rfl ?_ | (apply wr; focus exact xx) | (apply wi; (focus exact xx); (focus exact xx); all_goals intro _; all_goals try first | contradiction | (exfalso; omega) | exact absurd trivial ‹_›) | refine wh_reg ?_ | refine wh_ife ?_ | (apply re; focus exact xx) | (apply rf; (focus exact xx); (focus exact xx); all_goals intro _; all_goals try first | contradiction | (exfalso; omega) | exact absurd trivial ‹_›) | (apply ra; (focus exact xx); (focus exact xx); intro _) | (apply r1; (focus exact xx); (focus exact xx); intro _) | (apply rl; (focus exact xx); (focus exact xx); intro _) | (apply rb; (focus exact xx); (focus exact xx); intro _) | (apply rsi; (focus exact xx); (focus exact xx); all_goals try infer_instance) | (apply rsz; (focus exact xx); (focus exact xx); all_goals try infer_instance) | (apply rt; (focus exact xx); (focus exact xx)) | (apply rso; (focus exact xx); (focus exact xx); all_goals try infer_instance) | (apply rmm; (focus exact xx); intro _) | (apply ru; (focus exact xx); (focus exact xx)) | (apply rm; (focus exact xx); (focus exact xx); intro _) | (apply rk; (focus exact xx); (focus exact xx); intro _) | (apply rc; (focus exact xx); (focus exact xx)) | (apply rk'; (focus exact xx); (focus exact xx))
    · refine ⟨_, _, ?_, ⟨_, List.drop_sublist 1 _, pm_last (P := [_, _, _])⟩, _, es' ++ [.row .nil []], allRow_snoc har, ?_, ?_, ?_, ?_, rfl, rfl, ?_⟩
      · rw [List.length_append, List.length_singleton]; omega
      · rw [pad_more hes' (by omega), List.length_append]; rfl
      · rw [List.length_append]; omega
      · rw [List.length_append, List.length_singleton]; omega
      · right; rw [List.length_append, List.length_singleton]; omega
      · simp only [rows_app, List.map_append]; rfl
    · have hs : x.s.toNat < es'.length := by simp only [okI] at hx; omega
      obtain ⟨gs, xs, hrow⟩ := har _ hs
      refine wh_ref (g := g) (s := 1) (fl := false) (xs := es'.map (NE.v eOp)) (by simp) (by rw [List.length_map]; omega) ?_
      rintro id rfl
      refine wh_perm (pm_out (P := [_, _, _, _]) (rows_out hs hrow)) ?_
      have hpt : PT ⟨false, 1⟩ (NE.v eOp (nth es' x.s.toNat)).cells 0 gs.v := by rw [← show NE.v eOp (nth es' x.s.toNat) = gs.v by rw [hrow]; rfl]; exact ne_pt
      have hxl : xs.length ≤ 1048576 := by
        have h1 : nth (es'.map NE.c) x.s.toNat = xs := by rw [nth_map hs, hrow]; rfl
        have h2 := flat_len (h := es'.map NE.c) (i := x.s.toNat) (by rw [List.length_map]; exact hs)
        rw [h1, hes', pad_flat] at h2
        have h3 := (lay_flat (vars := f.vars) (f.items.take i) (m := 1048576) (by decide) fun y hy => h4 y (List.mem_of_mem_take hy)).1
        rw [List.length_take] at h3
        omega
      have hx2 := hx
      simp only [okI] at hx2
      refine wh_raw ?_
      repeat' first | (apply dr_fin; (focus exact xx)) | (apply dr_v; focus (apply DV.mk; (focus exact RF.mk rfl); (focus exact RF.mk rfl); (focus exact RF.mk rfl); (focus exact RF.mk rfl); (focus exact xx); focus (first | exact InD.no | (apply InD.so; (focus exact xx))))) | (apply dr_r; focus (apply DL.mk; (focus exact RF.mk rfl); (focus exact xx); (focus exact xx); focus (first | exact InD.no | (apply InD.so; (focus exact xx))))) | (apply dr_l; (focus exact RF.mk rfl); (focus exact RF.mk rfl); (focus exact RF.mk rfl); (focus exact RF.mk rfl); (focus exact RF.mk rfl)) | (apply dr_e; (focus exact RF.mk rfl); (focus exact RF.mk rfl); (focus exact RF.mk rfl); (focus exact RF.mk rfl)) | (apply rd_e; (focus exact xx); focus (repeat first | exact PO.nil | apply PO.zero | (apply PO.ld; (focus exact xx)))) | (apply rd_l; (focus exact xx)) | refine wh_seq ?_ | refine wh_skip ?_ | refine wh_block ?_ | refine wh_end ?_ | refine wh_exit ?_ | refine wh_ret ?_ | refine bk_norm ?_ | refine bk_exit ?_ | refine bk_ret ?_ | refine fr_exit ?_ | refine fr_ret ?_ | refine lp_exit ?_ | refine lp_ret ?_ | refine bk_other rfl ?_ | (apply wr; focus exact xx) | (apply wi; (focus exact xx); (focus exact xx); all_goals intro _; all_goals try first | contradiction | (exfalso; omega) | exact absurd trivial ‹_›) | refine wh_reg ?_ | refine wh_ife ?_ | (apply re; focus exact xx) | (apply rf; (focus exact xx); (focus exact xx); all_goals intro _; all_goals try first | contradiction | (exfalso; omega) | exact absurd trivial ‹_›) | (apply ra; (focus exact xx); (focus exact xx); intro _) | (apply r1; (focus exact xx); (focus exact xx); intro _) | (apply rl; (focus exact xx); (focus exact xx); intro _) | (apply rb; (focus exact xx); (focus exact xx); intro _) | (apply rsi; (focus exact xx); (focus exact xx); all_goals try infer_instance) | (apply rsz; (focus exact xx); (focus exact xx); all_goals try infer_instance) | (apply rt; (focus exact xx); (focus exact xx)) | (apply rso; (focus exact xx); (focus exact xx); all_goals try infer_instance) | (apply rmm; (focus exact xx); intro _) | (apply ru; (focus exact xx); (focus exact xx)) | (apply rm; (focus exact xx); (focus exact xx); intro _) | (apply rk; (focus exact xx); (focus exact xx); intro _) | (apply rc; (focus exact xx); (focus exact xx)) | (apply rk'; (focus exact xx); (focus exact xx))
      rename_i ga gb
      rw [show xs.map eOp ++ [V.agg [V.bool x.w, V.str (nth f.vars x.v.toNat), V.int IntKind.i64 x.x]] = (xs ++ [opOf f.vars x]).map eOp by rw [List.map_append]; rfl]
      have hse : SE (NE.v eOp) gb.v (NE.row gb (xs ++ [opOf f.vars x])) := ⟨rfl⟩
      repeat' first | (apply dr_fin; (focus exact xx)) | (apply dr_v; focus (apply DV.mk; (focus exact RF.mk rfl); (focus exact RF.mk rfl); (focus exact RF.mk rfl); (focus exact RF.mk rfl); (focus exact xx); focus (first | exact InD.no | (apply InD.so; (focus exact xx))))) | (apply dr_r; focus (apply DL.mk; (focus exact RF.mk rfl); (focus exact xx); (focus exact xx); focus (first | exact InD.no | (apply InD.so; (focus exact xx))))) | (apply dr_l; (focus exact RF.mk rfl); (focus exact RF.mk rfl); (focus exact RF.mk rfl); (focus exact RF.mk rfl); (focus exact RF.mk rfl)) | (apply dr_e; (focus exact RF.mk rfl); (focus exact RF.mk rfl); (focus exact RF.mk rfl); (focus exact RF.mk rfl)) | (apply rd_e; (focus exact xx); focus (repeat first | exact PO.nil | apply PO.zero | (apply PO.ld; (focus exact xx)))) | (apply rd_l; (focus exact xx)) | refine wh_seq ?_ | refine wh_skip ?_ | refine wh_block ?_ | refine wh_end ?_ | refine wh_exit ?_ | refine wh_ret ?_ | refine bk_norm ?_ | refine bk_exit ?_ | refine bk_ret ?_ | refine fr_exit ?_ | refine fr_ret ?_ | refine lp_exit ?_ | refine lp_ret ?_ | refine bk_other rfl ?_ | (apply wr; focus exact xx) | (apply wi; (focus exact xx); (focus exact xx); all_goals intro _; all_goals try first | contradiction | (exfalso; omega) | exact absurd trivial ‹_›) | refine wh_reg ?_ | refine wh_ife ?_ | (apply re; focus exact xx) | (apply rf; (focus exact xx); (focus exact xx); all_goals intro _; all_goals try first | contradiction | (exfalso; omega) | exact absurd trivial ‹_›) | (apply ra; (focus exact xx); (focus exact xx); intro _) | (apply r1; (focus exact xx); (focus exact xx); intro _) | (apply rl; (focus exact xx); (focus exact xx); intro _) | (apply rb; (focus exact xx); (focus exact xx); intro _) | (apply rsi; (focus exact xx); (focus exact xx); all_goals try infer_instance) | (apply rsz; (focus exact xx); (focus exact xx); all_goals try infer_instance) | (apply rt; (focus exact xx); (focus exact xx)) | (apply rso; (focus exact xx); (focus exact xx); all_goals try infer_instance) | (apply rmm; (focus exact xx); intro _) | (apply ru; (focus exact xx); (focus exact xx)) | (apply rm; (focus exact xx); (focus exact xx); intro _) | (apply rk; (focus exact xx); (focus exact xx); intro _) | (apply rc; (focus exact xx); (focus exact xx)) | (apply rk'; (focus exact xx); (focus exact xx))
      refine fr_nextp (by omega) ⟨_ :: _ :: _ :: rows 3 true eOp (es'.set x.s.toNat (.dat [])), ?_, pm_in (P := [_, _]) (rows_in hs)⟩ ⟨_, es'.set x.s.toNat (.row gb (xs ++ [opOf f.vars x])), allRow_set har, ?_, ?_, rfl, rfl⟩
      · exact sbc
      · have hlen : es'.length = es.length ∨ es'.length = x.s.toNat + 1 := by omega
        have hpad : padTo (layB f.vars (f.items.take i)) es'.length = padTo (layB f.vars (f.items.take i)) (x.s.toNat + 1) := by
          rcases hlen with h | h
          · have : x.s.toNat + 1 - (layB f.vars (f.items.take i)).length = 0 := by omega
            rw [h, hel, pad_self, padTo, this]; simp
          · rw [h]
        rw [map_set_c, hes', hpad, lay_succ hlt, hX, put1]
        congr 1
        rw [← hpad, ← hes', nth_map hs, hrow]; rfl
      · rw [take_nth hlt, hX]
        intro y hy
        rcases List.mem_append.1 hy with hy | hy
        · exact hok y hy
        · rw [List.mem_singleton] at hy; subst hy; exact hx
  · obtain rfl : i = f.items.length := by omega
    rw [List.take_length] at hes hok
    have hl2 := hlay hok
    rw [← hes] at hl2
    cases hr : rightB (es.map NE.c) with
    | false =>
      have c1 : PCon T0 n.ref09_Of [eH (es.map NE.c)] false True (.tup [eFacts default, .int .i64 1]) := ⟨fun _ => by have := (ref09_Of (es.map NE.c)).con hl2; rw [hr] at this; exact this⟩
      repeat' first | (apply dr_fin; (focus exact xx)) | (apply dr_v; focus (apply DV.mk; (focus exact RF.mk rfl); (focus exact RF.mk rfl); (focus exact RF.mk rfl); (focus exact RF.mk rfl); (focus exact xx); focus (first | exact InD.no | (apply InD.so; (focus exact xx))))) | (apply dr_r; focus (apply DL.mk; (focus exact RF.mk rfl); (focus exact xx); (focus exact xx); focus (first | exact InD.no | (apply InD.so; (focus exact xx))))) | (apply dr_l; (focus exact RF.mk rfl); (focus exact RF.mk rfl); (focus exact RF.mk rfl); (focus exact RF.mk rfl); (focus exact RF.mk rfl)) | (apply dr_e; (focus exact RF.mk rfl); (focus exact RF.mk rfl); (focus exact RF.mk rfl); (focus exact RF.mk rfl)) | (apply rd_e; (focus exact xx); focus (repeat first | exact PO.nil | apply PO.zero | (apply PO.ld; (focus exact xx)))) | (apply rd_l; (focus exact xx)) | refine wh_seq ?_ | refine wh_skip ?_ | refine wh_block ?_ | refine wh_end ?_ | refine wh_exit ?_ | refine wh_ret ?_ | refine bk_norm ?_ | refine bk_exit ?_ | refine bk_ret ?_ | refine fr_exit ?_ | refine fr_ret ?_ | refine lp_exit ?_ | refine lp_ret ?_ | refine bk_other rfl ?_ | (apply wr; focus exact xx) | (apply wi; (focus exact xx); (focus exact xx); all_goals intro _; all_goals try first | contradiction | (exfalso; omega) | exact absurd trivial ‹_›) | refine wh_reg ?_ | refine wh_ife ?_ | (apply re; focus exact xx) | (apply rf; (focus exact xx); (focus exact xx); all_goals intro _; all_goals try first | contradiction | (exfalso; omega) | exact absurd trivial ‹_›) | (apply ra; (focus exact xx); (focus exact xx); intro _) | (apply r1; (focus exact xx); (focus exact xx); intro _) | (apply rl; (focus exact xx); (focus exact xx); intro _) | (apply rb; (focus exact xx); (focus exact xx); intro _) | (apply rsi; (focus exact xx); (focus exact xx); all_goals try infer_instance) | (apply rsz; (focus exact xx); (focus exact xx); all_goals try infer_instance) | (apply rt; (focus exact xx); (focus exact xx)) | (apply rso; (focus exact xx); (focus exact xx); all_goals try infer_instance) | (apply rmm; (focus exact xx); intro _) | (apply ru; (focus exact xx); (focus exact xx)) | (apply rm; (focus exact xx); (focus exact xx); intro _) | (apply rk; (focus exact xx); (focus exact xx); intro _) | (apply rc; (focus exact xx); (focus exact xx)) | (apply rk'; (focus exact xx); (focus exact xx))
      refine fz ?_
      have : backF f = none := by
        unfold backF
        rw [if_neg]
        rintro ⟨_, h, _⟩
        rw [← hes, hr] at h; cases h
      rw [this]; rfl
    | true =>
      have c1 : PCon T0 n.ref09_Of [eH (es.map NE.c)] false True (.tup [eFacts (internF (es.map NE.c)), .int .i64 0]) := ⟨fun _ => by have := (ref09_Of (es.map NE.c)).con hl2; rw [hr] at this; exact this⟩
      have hqv := in_vars_le (es.map NE.c)
      have hqi := intern_len (es.map NE.c)
      have hl3 := hl2.1.2
      have hback : backF f = if (internF (es.map NE.c)).vars = f.vars ∧ (internF (es.map NE.c)).items = f.items then some (es.map NE.c) else none := by
        unfold backF
        rw [← hes, hr]
        by_cases hc : (internF (es.map NE.c)).vars = f.vars ∧ (internF (es.map NE.c)).items = f.items
        · rw [if_pos ⟨hok, rfl, hc⟩, if_pos hc]
        · rw [if_neg (fun h => hc h.2.2), if_neg hc]
      generalize internF (es.map NE.c) = q at *
      obtain ⟨qv, qi, qf⟩ := q
      dsimp only at hqv hqi hback
      repeat' first | (apply dr_fin; (focus exact xx)) | (apply dr_v; focus (apply DV.mk; (focus exact RF.mk rfl); (focus exact RF.mk rfl); (focus exact RF.mk rfl); (focus exact RF.mk rfl); (focus exact xx); focus (first | exact InD.no | (apply InD.so; (focus exact xx))))) | (apply dr_r; focus (apply DL.mk; (focus exact RF.mk rfl); (focus exact xx); (focus exact xx); focus (first | exact InD.no | (apply InD.so; (focus exact xx))))) | (apply dr_l; (focus exact RF.mk rfl); (focus exact RF.mk rfl); (focus exact RF.mk rfl); (focus exact RF.mk rfl); (focus exact RF.mk rfl)) | (apply dr_e; (focus exact RF.mk rfl); (focus exact RF.mk rfl); (focus exact RF.mk rfl); (focus exact RF.mk rfl)) | (apply rd_e; (focus exact xx); focus (repeat first | exact PO.nil | apply PO.zero | (apply PO.ld; (focus exact xx)))) | (apply rd_l; (focus exact xx)) | refine wh_seq ?_ | refine wh_skip ?_ | refine wh_block ?_ | refine wh_end ?_ | refine wh_exit ?_ | refine wh_ret ?_ | refine bk_norm ?_ | refine bk_exit ?_ | refine bk_ret ?_ | refine fr_exit ?_ | refine fr_ret ?_ | refine lp_exit ?_ | refine lp_ret ?_ | refine bk_other rfl ?_ | (apply wr; focus exact xx) | (apply wi; (focus exact xx); (focus exact xx); all_goals intro _; all_goals try first | contradiction | (exfalso; omega) | exact absurd trivial ‹_›) | refine wh_reg ?_ | refine wh_ife ?_ | (apply re; focus exact xx) | (apply rf; (focus exact xx); (focus exact xx); all_goals intro _; all_goals try first | contradiction | (exfalso; omega) | exact absurd trivial ‹_›) | (apply ra; (focus exact xx); (focus exact xx); intro _) | (apply r1; (focus exact xx); (focus exact xx); intro _) | (apply rl; (focus exact xx); (focus exact xx); intro _) | (apply rb; (focus exact xx); (focus exact xx); intro _) | (apply rsi; (focus exact xx); (focus exact xx); all_goals try infer_instance) | (apply rsz; (focus exact xx); (focus exact xx); all_goals try infer_instance) | (apply rt; (focus exact xx); (focus exact xx)) | (apply rso; (focus exact xx); (focus exact xx); all_goals try infer_instance) | (apply rmm; (focus exact xx); intro _) | (apply ru; (focus exact xx); (focus exact xx)) | (apply rm; (focus exact xx); (focus exact xx); intro _) | (apply rk; (focus exact xx); (focus exact xx); intro _) | (apply rc; (focus exact xx); (focus exact xx)) | (apply rk'; (focus exact xx); (focus exact xx))
      · refine fz ?_
        rename_i hcc
        rw [hback, if_neg]
        · rfl
        · rintro ⟨rfl, rfl⟩; simp at hcc
      · refine fz ?_
        rename_i hcc
        simp only [decide_eq_true_eq, not_or, Decidable.not_not] at hcc
        rw [hback, if_pos ⟨hcc.1.2, hcc.2⟩]; rfl⟩
end Go.AM

set_option linter.unusedVariables false
set_option linter.unusedSimpArgs false
namespace Go.AM
attribute [-simp] List.length_flatten List.map_flatten List.map_take List.map_map List.flatten_append
def lastS (items : List Item) : Nat → Int
  | 0 => -1
  | i + 1 => (nth items i).s
theorem allFrom_pw : ∀ (h : List (List Op)) (s : Nat), (allFrom s h).Pairwise (fun a b => a.1 ≤ b.1) ∧ ∀ q ∈ allFrom s h, s ≤ q.1
  | [], s => by simp [allFrom]
  | l :: r, s => by
    obtain ⟨h1, h2⟩ := allFrom_pw r (s + 1)
    have h3 : ∀ q ∈ rowOps s l l.length, q.1 = s := by
      intro q hq
      simp only [rowOps, List.mem_map, List.mem_range] at hq
      obtain ⟨p, _, rfl⟩ := hq; rfl
    constructor
    · rw [allFrom, List.pairwise_append]
      refine ⟨?_, h1, fun a ha b hb => ?_⟩
      · simp only [rowOps, List.pairwise_map]
        exact List.pairwise_of_forall (fun _ _ => Nat.le_refl _)
      · have := h2 b hb; rw [h3 a ha]; omega
    · intro q hq
      rw [allFrom, List.mem_append] at hq
      rcases hq with hq | hq
      · rw [h3 q hq]; omega
      · have := h2 q hq; omega
theorem in_sorted {h : List (List Op)} {i : Nat} (hi : i + 1 < (internF h).items.length) : (nth (internF h).items i).s ≤ (nth (internF h).items (i + 1)).s := by
  have hl : (internF h).items.length = (preOps h h.length).length := (inS_len _).1
  have g1 := (good_all (preOps h h.length) i (by omega)).1
  have g2 := (good_all (preOps h h.length) (i + 1) (by omega)).1
  show (nth (internS (preOps h h.length)).2 i).s ≤ (nth (internS (preOps h h.length)).2 (i + 1)).s
  rw [g1, g2, nth_eq (by omega), nth_eq (by omega)]
  have := (allFrom_pw h 0).1
  rw [← preOps_all] at this
  have := List.pairwise_iff_getElem.1 this i (i + 1) (by omega) (by omega) (by omega)
  omega
theorem max_le {a b c d l : Int} (h : (a < (if l < 0 then 0 else l) ∨ b < 0) ∨ c ≤ d) : (a < 0 ∨ a < l) ∨ b < 0 ∨ c ≤ d := by
  by_cases hl : l < 0
  · rw [if_pos hl] at h; omega
  · rw [if_neg hl] at h; omega
theorem le_max {a b c d l : Int} (h : ¬ ((a < (if l < 0 then 0 else l) ∨ b < 0) ∨ c ≤ d)) : 0 ≤ a ∧ l ≤ a ∧ 0 ≤ b ∧ d < c := by
  by_cases hl : l < 0
  · rw [if_pos hl] at h; omega
  · rw [if_neg hl] at h; omega
theorem same_nil (qv fv : List (List UInt8)) (qi fi : List Item) (h1 : qv.length ≤ 1048576) (h2 : qi.length ≤ 1048576) : PCon T0 n.intern_Same [eFacts ⟨qv, qi, []⟩, .agg [.lst (fv.map V.str), .lst (fi.map eItem), .lst []]] false True (.bool (decide (qv = fv ∧ qi = fi))) := ⟨fun _ => by
  have h := (intern_Same ⟨qv, qi, []⟩ ⟨fv, fi, []⟩).con (show fle ⟨qv, qi, []⟩ from ⟨h1, h2, by simp⟩)
  have e : decide ((⟨qv, qi, []⟩ : Facts) = ⟨fv, fi, []⟩) = decide (qv = fv ∧ qi = fi) := by
    rw [Bool.eq_iff_iff, decide_eq_true_eq, decide_eq_true_eq]; simp
  rw [e] at h
  exact h⟩
theorem iof_t (h : List (List Op)) (hl2 : hb h ∧ ∀ o ∈ h.flatten, o.v.length ≤ 1048576) (hr : rightB h = true) : PCon T0 n.intern_Of [eH h] false True (.tup [eFacts (internF h), .int .i64 0]) := ⟨fun _ => by
  have := (intern_Of h).con hl2
  rw [hr] at this
  exact this⟩
theorem iof_f (h : List (List Op)) (hl2 : hb h ∧ ∀ o ∈ h.flatten, o.v.length ≤ 1048576) (hr : rightB h = false) : PCon T0 n.intern_Of [eH h] false True (.tup [eFacts default, .int .i64 1]) := ⟨fun _ => by
  have := (intern_Of h).con hl2
  rw [hr] at this
  exact this⟩
theorem same_def (fv : List (List UInt8)) (fi : List Item) : PCon T0 n.intern_Same [eFacts default, .agg [.lst (fv.map V.str), .lst (fi.map eItem), .lst []]] false True (.bool (decide ([] = fv ∧ [] = fi))) := same_nil [] fv [] fi (by simp) (by simp)
set_option maxHeartbeats 4000000 in
instance intern_Back (f : Facts) : PCon T0 n.intern_Back [eFacts f] true (fbb f) (backV (backF f)) := ⟨fun hb0 => by
  have hlay := fun hk => lay_ok hb0 hk
  obtain ⟨h1, h2, h3, h4, h5⟩ := hb0
  refine pc tabOk ?_
  repeat' first | (apply dr_fin; (focus exact xx)) | (apply dr_v; focus (apply DV.mk; (focus exact RF.mk rfl); (focus exact RF.mk rfl); (focus exact RF.mk rfl); (focus exact RF.mk rfl); (focus exact xx); focus (first | exact InD.no | (apply InD.so; (focus exact xx))))) | (apply dr_r; focus (apply DL.mk; (focus exact RF.mk rfl); (focus exact xx); (focus exact xx); focus (first | exact InD.no | (apply InD.so; (focus exact xx))))) | (apply dr_l; (focus exact RF.mk rfl); (focus exact RF.mk rfl); (focus exact RF.mk rfl); (focus exact RF.mk rfl); (focus exact RF.mk rfl)) | (apply dr_e; (focus exact RF.mk rfl); (focus exact RF.mk rfl); (focus exact RF.mk rfl); (focus exact RF.mk rfl)) | (apply rd_e; (focus exact xx); focus (repeat first | exact PO.nil | apply PO.zero | (apply PO.ld; (focus exact xx)))) | (apply rd_l; (focus exact xx)) | refine wh_seq ?_ | refine wh_skip ?_ | refine wh_block ?_ | refine wh_end ?_ | refine wh_exit ?_ | refine wh_ret ?_ | refine bk_norm ?_ | refine bk_exit ?_ | refine bk_ret ?_ | refine fr_exit ?_ | refine fr_ret ?_ | refine lp_exit ?_ | refine lp_ret ?_ | refine bk_other rfl ?_ | (apply wr; focus exact xx) | (apply wi; (focus exact xx); (focus exact xx); all_goals intro _; all_goals try first | contradiction | (exfalso; omega) | exact absurd trivial ‹_›) | refine wh_reg ?_ | refine wh_ife ?_ | (apply re; focus exact xx) | (apply rf; (focus exact xx); (focus exact xx); all_goals intro _; all_goals try first | contradiction | (exfalso; omega) | exact absurd trivial ‹_›) | (apply ra; (focus exact xx); (focus exact xx); intro _) | (apply r1; (focus exact xx); (focus exact xx); intro _) | (apply rl; (focus exact xx); (focus exact xx); intro _) | (apply rb; (focus exact xx); (focus exact xx); intro _) | (apply rsi; (focus exact xx); (focus exact xx); all_goals try infer_instance) | (apply rsz; (focus exact xx); (focus exact xx); all_goals try infer_instance) | (apply rt; (focus exact xx); (focus exact xx)) | (apply rso; (focus exact xx); (focus exact xx); all_goals try infer_instance) | (apply rmm; (focus exact xx); intro _) | (apply ru; (focus exact xx); (focus exact xx)) | (apply rm; (focus exact xx); (focus exact xx); intro _) | (apply rk; (focus exact xx); (focus exact xx); intro _) | (apply rc; (focus exact xx); (focus exact xx)) | (apply rk'; (focus exact xx); (focus exact xx))
  rename_i i1
  refine wn 1 false ?_
  refine wh_count f.items.length (fun i A L => ∃ g es, allRow es ∧ es.map NE.c = layB f.vars (f.items.take i) ∧ (∀ x ∈ f.items.take i, okI f.vars x) ∧ A = [(1, .ptr i1 3 0 0), (4, Hd.v g), (5, .int .i64 (lastS f.items i)), (11, eItems f.items), (12, .int .i64 (f.items.length : Nat)), (13, .int .i64 (i : Nat))] ∧ L = .own g 1 false (es.map (NE.v eOp)) :: .ob i1 (.row 3 false [eFacts f]) :: rows 3 true eOp es) ⟨.nil, [], fun i hi => by simp at hi, rfl, by simp, rfl, rfl⟩ ?_
  rintro i A L hi ⟨g, es, har, hes, hok, rfl, rfl⟩
  by_cases hlt : i < f.items.length
  · have hxm : nth f.items i ∈ f.items := by rw [nth_eq hlt]; exact List.getElem_mem _
    have hxs := h4 _ hxm
    repeat' first | (apply dr_fin; (focus exact xx)) | (apply dr_v; focus (apply DV.mk; (focus exact RF.mk rfl); (focus exact RF.mk rfl); (focus exact RF.mk rfl); (focus exact RF.mk rfl); (focus exact xx); focus (first | exact InD.no | (apply InD.so; (focus exact xx))))) | (apply dr_r; focus (apply DL.mk; (focus exact RF.mk rfl); (focus exact xx); (focus exact xx); focus (first | exact InD.no | (apply InD.so; (focus exact xx))))) | (apply dr_l; (focus exact RF.mk rfl); (focus exact RF.mk rfl); (focus exact RF.mk rfl); (focus exact RF.mk rfl); (focus exact RF.mk rfl)) | (apply dr_e; (focus exact RF.mk rfl); (focus exact RF.mk rfl); (focus exact RF.mk rfl); (focus exact RF.mk rfl)) | (apply rd_e; (focus exact xx); focus (repeat first | exact PO.nil | apply PO.zero | (apply PO.ld; (focus exact xx)))) | (apply rd_l; (focus exact xx)) | refine wh_seq ?_ | refine wh_skip ?_ | refine wh_block ?_ | refine wh_end ?_ | refine wh_exit ?_ | refine wh_ret ?_ | refine bk_norm ?_ | refine bk_exit ?_ | refine bk_ret ?_ | refine fr_exit ?_ | refine fr_ret ?_ | refine lp_exit ?_ | refine lp_ret ?_ | refine bk_other rfl ?_ | (apply wr; focus exact xx) | (apply wi; (focus exact xx); (focus exact xx); all_goals intro _; all_goals try first | contradiction | (exfalso; omega) | exact absurd trivial ‹_›) | refine wh_reg ?_ | refine wh_ife ?_ | (apply re; focus exact xx) | (apply rf; (focus exact xx); (focus exact xx); all_goals intro _; all_goals try first | contradiction | (exfalso; omega) | exact absurd trivial ‹_›) | (apply ra; (focus exact xx); (focus exact xx); intro _) | (apply r1; (focus exact xx); (focus exact xx); intro _) | (apply rl; (focus exact xx); (focus exact xx); intro _) | (apply rb; (focus exact xx); (focus exact xx); intro _) | (apply rsi; (focus exact xx); (focus exact xx); all_goals try infer_instance) | (apply rsz; (focus exact xx); (focus exact xx); all_goals try infer_instance) | (apply rt; (focus exact xx); (focus exact xx)) | (apply rso; (focus exact xx); (focus exact xx); all_goals try infer_instance) | (apply rmm; (focus exact xx); intro _) | (apply ru; (focus exact xx); (focus exact xx)) | (apply rm; (focus exact xx); (focus exact xx); intro _) | (apply rk; (focus exact xx); (focus exact xx); intro _) | (apply rc; (focus exact xx); (focus exact xx)) | (apply rk'; (focus exact xx); (focus exact xx))
    · rename_i hbad
      refine fz ?_
      have : backF f = none := by
        unfold backF
        rw [if_neg]
        rintro ⟨hk, _, _, hit⟩
        have h6 := hk _ hxm
        simp only [okI] at h6
        have h7 := max_le hbad
        have h8 : (nth f.items i).s < lastS f.items i := by omega
        cases i with
        | zero => simp only [lastS] at h8; omega
        | succ j =>
          have h9 := in_sorted (h := layB f.vars f.items) (i := j) (by rw [hit]; exact hlt)
          rw [hit] at h9
          simp only [lastS] at h8
          omega
      rw [this]; rfl
    rename_i i6 hgood
    have hmax := le_max hgood
    have hx : okI f.vars (nth f.items i) := by simp only [okI]; omega
    generalize hX : nth f.items i = x at *
    have hel : es.length = (layB f.vars (f.items.take i)).length := by rw [← hes, List.length_map]
    have hel2 : es.length ≤ 1048576 := by
      rw [hel]; exact (lay_flat (vars := f.vars) (f.items.take i) (m := 1048576) (by decide) fun y hy => h4 y (List.mem_of_mem_take hy)).2.2
    refine wh_loop (fun m A L => ∃ g es', allRow es' ∧ es'.map NE.c = padTo (layB f.vars (f.items.take i)) es'.length ∧ es.length ≤ es'.length ∧ es'.length ≤ 1048576 ∧ (es'.length = es.length ∨ (es'.length : Int) ≤ x.s + 1) ∧ m = (x.s + 1 - es'.length).toNat ∧ A = [(1, .ptr i1 3 0 0), (4, Hd.v g), (5, .int .i64 x.s), (7, .ptr i6 5 0 0), (11, eItems f.items), (12, .int .i64 (f.items.length : Nat)), (13, .int .i64 (i : Nat))] ∧ L = .ob i6 (.row 5 true [eItem x]) :: .own g 1 false (es'.map (NE.v eOp)) :: .ob i1 (.row 3 false [eFacts f]) :: rows 3 true eOp es') _ ⟨g, es, har, by rw [hel, pad_self]; exact hes, by omega, hel2, .inl rfl, rfl, rfl, rfl⟩ ?_
    rintro m A L ⟨g, es', har, hes', hle, hle2, hmx, rfl, rfl, rfl⟩
    refine wn 3 true ?_
    repeat' first | (apply dr_fin; (focus exact xx)) | (apply dr_v; focus (apply DV.mk; (focus exact RF.mk rfl); (focus exact RF.mk rfl); (focus exact RF.mk rfl); (focus exact RF.mk rfl); (focus exact xx); focus (first | exact InD.no | (apply InD.so; (focus exact xx))))) | (apply dr_r; focus (apply DL.mk; (focus exact RF.mk rfl); (focus exact xx); (focus exact xx); focus (first | exact InD.no | (apply InD.so; (focus exact xx))))) | (apply dr_l; (focus exact RF.mk rfl); (focus exact RF.mk rfl); (focus exact RF.mk rfl); (focus exact RF.mk rfl); (focus exact RF.mk rfl)) | (apply dr_e; (focus exact RF.mk rfl); (focus exact RF.mk rfl); (focus exact RF.mk rfl); (focus exact RF.mk rfl)) | (apply rd_e; (focus exact xx); focus (repeat first | exact PO.nil | apply PO.zero | (apply PO.ld; (focus exact xx)))) | (apply rd_l; (focus exact xx)) | refine wh_seq ?_ | refine wh_skip ?_ | refine wh_block ?_ | refine wh_end ?_ | refine wh_exit ?_ | refine wh_ret ?_ | refine bk_norm ?_ | refine bk_exit ?_ | refine bk_ret ?_ | refine fr_exit ?_ | refine fr_ret ?_ | refine lp_exit ?_ | refine lp_ret ?_ | refine bk_other rfl ?_ | (apply wr; focus exact xx) | (apply wi; (focus exact xx); (focus exact xx); all_goals intro _; all_goals try first | contradiction | (exfalso; omega) | exact absurd trivial ‹_›) | refine wh_reg ?_ | refine wh_ife ?_ | (apply re; focus exact xx) | (apply rf; (focus exact xx); (focus exact xx); all_goals intro _; all_goals try first | contradiction | (exfalso; omega) | exact absurd trivial ‹_›) | (apply ra; (focus exact xx); (focus exact xx); intro _) | (apply r1; (focus exact xx); (focus exact xx); intro _) | (apply rl; (focus exact xx); (focus exact xx); intro _) | (apply rb; (focus exact xx); (focus exact xx); intro _) | (apply rsi; (focus exact xx); (focus exact xx); all_goals try infer_instance) | (apply rsz; (focus exact xx); (focus exact xx); all_goals try infer_instance) | (apply rt; (focus exact xx); (focus exact xx)) | (apply rso; (focus exact xx); (focus exact xx); all_goals try infer_instance) | (apply rmm; (focus exact xx); intro _) | (apply ru; (focus exact xx); (focus exact xx)) | (apply rm; (focus exact xx); (focus exact xx); intro _) | (apply rk; (focus exact xx); (focus exact xx); intro _) | (apply rc; (focus exact xx); (focus exact xx)) | (apply rk'; (focus exact xx); (focus exact xx))
    · refine ⟨_, _, ?_, ⟨_, List.drop_sublist 1 _, pm_last (P := [_, _, _])⟩, _, es' ++ [.row .nil []], allRow_snoc har, ?_, ?_, ?_, ?_, rfl, rfl, ?_⟩
      · rw [List.length_append, List.length_singleton]; omega
      · rw [pad_more hes' (by omega), List.length_append]; rfl
      · rw [List.length_append]; omega
      · rw [List.length_append, List.length_singleton]; omega
      · right; rw [List.length_append, List.length_singleton]; omega
      · simp only [rows_app, List.map_append]; rfl
    · have hs : x.s.toNat < es'.length := by simp only [okI] at hx; omega
      obtain ⟨gs, xs, hrow⟩ := har _ hs
      refine wh_ref (g := g) (s := 1) (fl := false) (xs := es'.map (NE.v eOp)) (by simp) (by rw [List.length_map]; omega) ?_
      rintro id rfl
      refine wh_perm (pm_out (P := [_, _, _, _]) (rows_out hs hrow)) ?_
      have hpt : PT ⟨false, 1⟩ (NE.v eOp (nth es' x.s.toNat)).cells 0 gs.v := by rw [← show NE.v eOp (nth es' x.s.toNat) = gs.v by rw [hrow]; rfl]; exact ne_pt
      have hxl : xs.length ≤ 1048576 := by
        have h1 : nth (es'.map NE.c) x.s.toNat = xs := by rw [nth_map hs, hrow]; rfl
        have h2 := flat_len (h := es'.map NE.c) (i := x.s.toNat) (by rw [List.length_map]; exact hs)
        rw [h1, hes', pad_flat] at h2
        have h3 := (lay_flat (vars := f.vars) (f.items.take i) (m := 1048576) (by decide) fun y hy => h4 y (List.mem_of_mem_take hy)).1
        rw [List.length_take] at h3
        omega
      have hx2 := hx
      simp only [okI] at hx2
      refine wh_raw ?_
      repeat' first | (apply dr_fin; (focus exact xx)) | (apply dr_v; focus (apply DV.mk; (focus exact RF.mk rfl); (focus exact RF.mk rfl); (focus exact RF.mk rfl); (focus exact RF.mk rfl); (focus exact xx); focus (first | exact InD.no | (apply InD.so; (focus exact xx))))) | (apply dr_r; focus (apply DL.mk; (focus exact RF.mk rfl); (focus exact xx); (focus exact xx); focus (first | exact InD.no | (apply InD.so; (focus exact xx))))) | (apply dr_l; (focus exact RF.mk rfl); (focus exact RF.mk rfl); (focus exact RF.mk rfl); (focus exact RF.mk rfl); (focus exact RF.mk rfl)) | (apply dr_e; (focus exact RF.mk rfl); (focus exact RF.mk rfl); (focus exact RF.mk rfl); (focus exact RF.mk rfl)) | (apply rd_e; (focus exact xx); focus (repeat first | exact PO.nil | apply PO.zero | (apply PO.ld; (focus exact xx)))) | (apply rd_l; (focus exact xx)) | refine wh_seq ?_ | refine wh_skip ?_ | refine wh_block ?_ | refine wh_end ?_ | refine wh_exit ?_ | refine wh_ret ?_ | refine bk_norm ?_ | refine bk_exit ?_ | refine bk_ret ?_ | refine fr_exit ?_ | refine fr_ret ?_ | refine lp_exit ?_ | refine lp_ret ?_ | refine bk_other rfl ?_ | (apply wr; focus exact xx) | (apply wi; (focus exact xx); (focus exact xx); all_goals intro _; all_goals try first | contradiction | (exfalso; omega) | exact absurd trivial ‹_›) | refine wh_reg ?_ | refine wh_ife ?_ | (apply re; focus exact xx) | (apply rf; (focus exact xx); (focus exact xx); all_goals intro _; all_goals try first | contradiction | (exfalso; omega) | exact absurd trivial ‹_›) | (apply ra; (focus exact xx); (focus exact xx); intro _) | (apply r1; (focus exact xx); (focus exact xx); intro _) | (apply rl; (focus exact xx); (focus exact xx); intro _) | (apply rb; (focus exact xx); (focus exact xx); intro _) | (apply rsi; (focus exact xx); (focus exact xx); all_goals try infer_instance) | (apply rsz; (focus exact xx); (focus exact xx); all_goals try infer_instance) | (apply rt; (focus exact xx); (focus exact xx)) | (apply rso; (focus exact xx); (focus exact xx); all_goals try infer_instance) | (apply rmm; (focus exact xx); intro _) | (apply ru; (focus exact xx); (focus exact xx)) | (apply rm; (focus exact xx); (focus exact xx); intro _) | (apply rk; (focus exact xx); (focus exact xx); intro _) | (apply rc; (focus exact xx); (focus exact xx)) | (apply rk'; (focus exact xx); (focus exact xx))
      rename_i ga gb
      rw [show xs.map eOp ++ [V.agg [V.bool x.w, V.str (nth f.vars x.v.toNat), V.int IntKind.i64 x.x]] = (xs ++ [opOf f.vars x]).map eOp by rw [List.map_append]; rfl]
      have hse : SE (NE.v eOp) gb.v (NE.row gb (xs ++ [opOf f.vars x])) := ⟨rfl⟩
      repeat' first | (apply dr_fin; (focus exact xx)) | (apply dr_v; focus (apply DV.mk; (focus exact RF.mk rfl); (focus exact RF.mk rfl); (focus exact RF.mk rfl); (focus exact RF.mk rfl); (focus exact xx); focus (first | exact InD.no | (apply InD.so; (focus exact xx))))) | (apply dr_r; focus (apply DL.mk; (focus exact RF.mk rfl); (focus exact xx); (focus exact xx); focus (first | exact InD.no | (apply InD.so; (focus exact xx))))) | (apply dr_l; (focus exact RF.mk rfl); (focus exact RF.mk rfl); (focus exact RF.mk rfl); (focus exact RF.mk rfl); (focus exact RF.mk rfl)) | (apply dr_e; (focus exact RF.mk rfl); (focus exact RF.mk rfl); (focus exact RF.mk rfl); (focus exact RF.mk rfl)) | (apply rd_e; (focus exact xx); focus (repeat first | exact PO.nil | apply PO.zero | (apply PO.ld; (focus exact xx)))) | (apply rd_l; (focus exact xx)) | refine wh_seq ?_ | refine wh_skip ?_ | refine wh_block ?_ | refine wh_end ?_ | refine wh_exit ?_ | refine wh_ret ?_ | refine bk_norm ?_ | refine bk_exit ?_ | refine bk_ret ?_ | refine fr_exit ?_ | refine fr_ret ?_ | refine lp_exit ?_ | refine lp_ret ?_ | refine bk_other rfl ?_ | (apply wr; focus exact xx) | (apply wi; (focus exact xx); (focus exact xx); all_goals intro _; all_goals try first | contradiction | (exfalso; omega) | exact absurd trivial ‹_›) | refine wh_reg ?_ | refine wh_ife ?_ | (apply re; focus exact xx) | (apply rf; (focus exact xx); (focus exact xx); all_goals intro _; all_goals try first | contradiction | (exfalso; omega) | exact absurd trivial ‹_›) | (apply ra; (focus exact xx); (focus exact xx); intro _) | (apply r1; (focus exact xx); (focus exact xx); intro _) | (apply rl; (focus exact xx); (focus exact xx); intro _) | (apply rb; (focus exact xx); (focus exact xx); intro _) | (apply rsi; (focus exact xx); (focus exact xx); all_goals try infer_instance) | (apply rsz; (focus exact xx); (focus exact xx); all_goals try infer_instance) | (apply rt; (focus exact xx); (focus exact xx)) | (apply rso; (focus exact xx); (focus exact xx); all_goals try infer_instance) | (apply rmm; (focus exact xx); intro _) | (apply ru; (focus exact xx); (focus exact xx)) | (apply rm; (focus exact xx); (focus exact xx); intro _) | (apply rk; (focus exact xx); (focus exact xx); intro _) | (apply rc; (focus exact xx); (focus exact xx)) | (apply rk'; (focus exact xx); (focus exact xx))
      refine fr_nextp (by omega) ⟨_ :: _ :: _ :: rows 3 true eOp (es'.set x.s.toNat (.dat [])), ?_, pm_in (P := [_, _]) (rows_in hs)⟩ ⟨_, es'.set x.s.toNat (.row gb (xs ++ [opOf f.vars x])), allRow_set har, ?_, ?_, (by rw [show lastS f.items (i + 1) = x.s from (by rw [lastS, hX])]), rfl⟩
      · exact sbc
      · have hlen : es'.length = es.length ∨ es'.length = x.s.toNat + 1 := by omega
        have hpad : padTo (layB f.vars (f.items.take i)) es'.length = padTo (layB f.vars (f.items.take i)) (x.s.toNat + 1) := by
          rcases hlen with h | h
          · have : x.s.toNat + 1 - (layB f.vars (f.items.take i)).length = 0 := by omega
            rw [h, hel, pad_self, padTo, this]; simp
          · rw [h]
        rw [map_set_c, hes', hpad, lay_succ hlt, hX, put1]
        congr 1
        rw [← hpad, ← hes', nth_map hs, hrow]; rfl
      · rw [take_nth hlt, hX]
        intro y hy
        rcases List.mem_append.1 hy with hy | hy
        · exact hok y hy
        · rw [List.mem_singleton] at hy; subst hy; exact hx
  · obtain rfl : i = f.items.length := by omega
    rw [List.take_length] at hes hok
    have hl2 := hlay hok
    rw [← hes] at hl2
    cases hr : rightB (es.map NE.c) with
    | false =>
      have c1 := iof_f _ hl2 hr
      have c2 := same_def f.vars f.items
      repeat' first | (apply dr_fin; (focus exact xx)) | (apply dr_v; focus (apply DV.mk; (focus exact RF.mk rfl); (focus exact RF.mk rfl); (focus exact RF.mk rfl); (focus exact RF.mk rfl); (focus exact xx); focus (first | exact InD.no | (apply InD.so; (focus exact xx))))) | (apply dr_r; focus (apply DL.mk; (focus exact RF.mk rfl); (focus exact xx); (focus exact xx); focus (first | exact InD.no | (apply InD.so; (focus exact xx))))) | (apply dr_l; (focus exact RF.mk rfl); (focus exact RF.mk rfl); (focus exact RF.mk rfl); (focus exact RF.mk rfl); (focus exact RF.mk rfl)) | (apply dr_e; (focus exact RF.mk rfl); (focus exact RF.mk rfl); (focus exact RF.mk rfl); (focus exact RF.mk rfl)) | (apply rd_e; (focus exact xx); focus (repeat first | exact PO.nil | apply PO.zero | (apply PO.ld; (focus exact xx)))) | (apply rd_l; (focus exact xx)) | refine wh_seq ?_ | refine wh_skip ?_ | refine wh_block ?_ | refine wh_end ?_ | refine wh_exit ?_ | refine wh_ret ?_ | refine bk_norm ?_ | refine bk_exit ?_ | refine bk_ret ?_ | refine fr_exit ?_ | refine fr_ret ?_ | refine lp_exit ?_ | refine lp_ret ?_ | refine bk_other rfl ?_ | (apply wr; focus exact xx) | (apply wi; (focus exact xx); (focus exact xx); all_goals intro _; all_goals try first | contradiction | (exfalso; omega) | exact absurd trivial ‹_›) | refine wh_reg ?_ | refine wh_ife ?_ | (apply re; focus exact xx) | (apply rf; (focus exact xx); (focus exact xx); all_goals intro _; all_goals try first | contradiction | (exfalso; omega) | exact absurd trivial ‹_›) | (apply ra; (focus exact xx); (focus exact xx); intro _) | (apply r1; (focus exact xx); (focus exact xx); intro _) | (apply rl; (focus exact xx); (focus exact xx); intro _) | (apply rb; (focus exact xx); (focus exact xx); intro _) | (apply rsi; (focus exact xx); (focus exact xx); all_goals try infer_instance) | (apply rsz; (focus exact xx); (focus exact xx); all_goals try infer_instance) | (apply rt; (focus exact xx); (focus exact xx)) | (apply rso; (focus exact xx); (focus exact xx); all_goals try infer_instance) | (apply rmm; (focus exact xx); intro _) | (apply ru; (focus exact xx); (focus exact xx)) | (apply rm; (focus exact xx); (focus exact xx); intro _) | (apply rk; (focus exact xx); (focus exact xx); intro _) | (apply rc; (focus exact xx); (focus exact xx)) | (apply rk'; (focus exact xx); (focus exact xx))
      refine fz ?_
      have : backF f = none := by
        unfold backF
        rw [if_neg]
        rintro ⟨_, h, _⟩
        rw [← hes, hr] at h; cases h
      rw [this]; rfl
    | true =>
      have c1 := iof_t _ hl2 hr
      have hqv := in_vars_le (es.map NE.c)
      have hqi := intern_len (es.map NE.c)
      have hl3 := hl2.1.2
      have hback : backF f = if (internF (es.map NE.c)).vars = f.vars ∧ (internF (es.map NE.c)).items = f.items then some (es.map NE.c) else none := by
        unfold backF
        rw [← hes, hr]
        by_cases hc : (internF (es.map NE.c)).vars = f.vars ∧ (internF (es.map NE.c)).items = f.items
        · rw [if_pos ⟨hok, rfl, hc⟩, if_pos hc]
        · rw [if_neg (fun h => hc h.2.2), if_neg hc]
      have hqf : (internF (es.map NE.c)).from' = [] := rfl
      generalize internF (es.map NE.c) = q at *
      obtain ⟨qv, qi, qf⟩ := q
      dsimp only at hqv hqi hback hqf
      subst hqf
      have c2 := same_nil qv f.vars qi f.items (by omega) (by omega)
      repeat' first | (apply dr_fin; (focus exact xx)) | (apply dr_v; focus (apply DV.mk; (focus exact RF.mk rfl); (focus exact RF.mk rfl); (focus exact RF.mk rfl); (focus exact RF.mk rfl); (focus exact xx); focus (first | exact InD.no | (apply InD.so; (focus exact xx))))) | (apply dr_r; focus (apply DL.mk; (focus exact RF.mk rfl); (focus exact xx); (focus exact xx); focus (first | exact InD.no | (apply InD.so; (focus exact xx))))) | (apply dr_l; (focus exact RF.mk rfl); (focus exact RF.mk rfl); (focus exact RF.mk rfl); (focus exact RF.mk rfl); (focus exact RF.mk rfl)) | (apply dr_e; (focus exact RF.mk rfl); (focus exact RF.mk rfl); (focus exact RF.mk rfl); (focus exact RF.mk rfl)) | (apply rd_e; (focus exact xx); focus (repeat first | exact PO.nil | apply PO.zero | (apply PO.ld; (focus exact xx)))) | (apply rd_l; (focus exact xx)) | refine wh_seq ?_ | refine wh_skip ?_ | refine wh_block ?_ | refine wh_end ?_ | refine wh_exit ?_ | refine wh_ret ?_ | refine bk_norm ?_ | refine bk_exit ?_ | refine bk_ret ?_ | refine fr_exit ?_ | refine fr_ret ?_ | refine lp_exit ?_ | refine lp_ret ?_ | refine bk_other rfl ?_ | (apply wr; focus exact xx) | (apply wi; (focus exact xx); (focus exact xx); all_goals intro _; all_goals try first | contradiction | (exfalso; omega) | exact absurd trivial ‹_›) | refine wh_reg ?_ | refine wh_ife ?_ | (apply re; focus exact xx) | (apply rf; (focus exact xx); (focus exact xx); all_goals intro _; all_goals try first | contradiction | (exfalso; omega) | exact absurd trivial ‹_›) | (apply ra; (focus exact xx); (focus exact xx); intro _) | (apply r1; (focus exact xx); (focus exact xx); intro _) | (apply rl; (focus exact xx); (focus exact xx); intro _) | (apply rb; (focus exact xx); (focus exact xx); intro _) | (apply rsi; (focus exact xx); (focus exact xx); all_goals try infer_instance) | (apply rsz; (focus exact xx); (focus exact xx); all_goals try infer_instance) | (apply rt; (focus exact xx); (focus exact xx)) | (apply rso; (focus exact xx); (focus exact xx); all_goals try infer_instance) | (apply rmm; (focus exact xx); intro _) | (apply ru; (focus exact xx); (focus exact xx)) | (apply rm; (focus exact xx); (focus exact xx); intro _) | (apply rk; (focus exact xx); (focus exact xx); intro _) | (apply rc; (focus exact xx); (focus exact xx)) | (apply rk'; (focus exact xx); (focus exact xx))
      · refine fz ?_
        rename_i hcc
        rw [hback, if_neg]
        · rfl
        · rintro ⟨rfl, rfl⟩; simp at hcc
      · refine fz ?_
        rename_i hcc
        simp only [decide_eq_true_eq, not_or, Decidable.not_not] at hcc
        rw [hback, if_pos hcc.2]; rfl⟩
end Go.AM

