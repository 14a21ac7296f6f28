/- Part ZB of the proof. -/
import Derived.Test.YtbjikpplkjeaiaaDoorZA
set_option linter.unusedVariables false
set_option linter.unusedSimpArgs false
namespace Go.AM
attribute [-simp] List.length_flatten List.map_flatten List.map_take List.map_map List.flatten_append
/-- Where the i-th operation stands, from session s on. -/
def spotF : List (List Op) → Nat → Int → Option (Nat × Int)
  | [], _, _ => none
  | l :: r, s, i => if i < l.length then some (s, i) else spotF r (s + 1) (i - l.length)
@[reducible] def eSpot (s i : Int) : V := .agg [.int .i64 s, .int .i64 i]
def spotV (o : Option (Nat × Int)) : V := match o with
  | some (s, i) => .tup [eSpot s i, .bool true]
  | none => .tup [eSpot 0 0, .bool false]
theorem drop_nth {α : Type} [Inhabited α] {l : List α} {i : Nat} (h : i < l.length) : l.drop i = nth l i :: l.drop (i + 1) := by
  rw [nth_eq h]; exact List.drop_eq_getElem_cons h
instance ref06_Spot (h : List (List Op)) (i : Int) : PCon T0 n.ref06_Spot [eH h, .int .i64 i] false (hb h ∧ -9223372036854775808 ≤ i ∧ i ≤ 9223372036854775807) (spotV (if i < 0 then none else spotF h 0 i)) := ⟨fun ⟨b, hi⟩ => by
  refine pc tabOk ?_
  have hl := b.1
  repeat' first | refine wh_seq ?_ | refine wh_skip ?_ | refine wh_block ?_ | refine wh_end ?_ | refine wh_exit ?_ | refine wh_ret ?_ | refine bk_norm ?_ | refine bk_exit ?_ | refine bk_ret ?_ | refine fr_exit ?_ | refine fr_ret ?_ | refine lp_exit ?_ | refine lp_ret ?_ | refine bk_other rfl ?_ | (apply wr; focus exact xx) | (apply wi; (focus exact xx); (focus exact xx); all_goals intro _; all_goals try first | contradiction | (exfalso; omega) | exact absurd trivial ‹_›) | refine wh_reg ?_ | refine wh_raw ?_ | (apply dr_fin; (focus exact xx)) | (apply dr_v; (focus exact xd)) | (apply dr_r; (focus exact xd)) | (apply dr_l; (focus exact RF.mk rfl); (focus exact RF.mk rfl); (focus exact RF.mk rfl); (focus exact RF.mk rfl); (focus exact RF.mk rfl)) | (apply dr_e; (focus exact RF.mk rfl); (focus exact RF.mk rfl); (focus exact RF.mk rfl); (focus exact RF.mk rfl)) | (apply rd_e; (focus exact xx); (focus exact xd)) | (apply rd_l; (focus exact xx)) | refine wh_ife ?_ | (apply re; focus exact xx) | (apply rf; (focus exact xx); (focus exact xx); all_goals intro _; all_goals try first | contradiction | (exfalso; omega) | exact absurd trivial ‹_›) | (apply ra; (focus exact xx); (focus exact xx); intro _) | (apply r1; (focus exact xx); (focus exact xx); intro _) | (apply rl; (focus exact xx); (focus exact xx); intro _) | (apply rb; (focus exact xx); (focus exact xx); intro _) | (apply rt; (focus exact xx); (focus exact xx)) | (apply rsi; (focus exact xx); (focus exact xx)) | (apply rsz; (focus exact xx); (focus exact xx)) | (apply rso; (focus exact xx); (focus exact xx)) | (apply rmm; (focus exact xx); intro _) | (apply ru; (focus exact xx); (focus exact xx)) | (apply rm; (focus exact xx); (focus exact xx); intro _) | (apply rk; (focus exact xx); (focus exact xx); intro _) | (apply rc; (focus exact xx); (focus exact xx)) | (apply rk'; (focus exact xx); (focus exact xx))
  · rw [if_pos ‹_›]; exact fz rfl
  rename_i id hn
  rw [if_neg hn]
  refine wh_count h.length (fun s A L => ∃ j : Int, 0 ≤ j ∧ j ≤ i ∧ spotF h 0 i = spotF (h.drop s) s j ∧ A = [(0, eH h), (1, .int .i64 j), (4, .ptr id 2 0 0), (6, .int .i64 (s : Nat))] ∧ L = [.ob id (.row 2 true [eSpot 0 0])]) ⟨i, by omega, by omega, rfl, rfl, rfl⟩ ?_
  rintro s A L hs ⟨j, h0, h1, he, rfl, rfl⟩
  repeat' first | refine wh_seq ?_ | refine wh_skip ?_ | refine wh_block ?_ | refine wh_end ?_ | refine wh_exit ?_ | refine wh_ret ?_ | refine bk_norm ?_ | refine bk_exit ?_ | refine bk_ret ?_ | refine fr_exit ?_ | refine fr_ret ?_ | refine lp_exit ?_ | refine lp_ret ?_ | refine bk_other rfl ?_ | (apply wr; focus exact xx) | (apply wi; (focus exact xx); (focus exact xx); all_goals intro _; all_goals try first | contradiction | (exfalso; omega) | exact absurd trivial ‹_›) | refine wh_reg ?_ | refine wh_raw ?_ | (apply dr_fin; (focus exact xx)) | (apply dr_v; (focus exact xd)) | (apply dr_r; (focus exact xd)) | (apply dr_l; (focus exact RF.mk rfl); (focus exact RF.mk rfl); (focus exact RF.mk rfl); (focus exact RF.mk rfl); (focus exact RF.mk rfl)) | (apply dr_e; (focus exact RF.mk rfl); (focus exact RF.mk rfl); (focus exact RF.mk rfl); (focus exact RF.mk rfl)) | (apply rd_e; (focus exact xx); (focus exact xd)) | (apply rd_l; (focus exact xx)) | refine wh_ife ?_ | (apply re; focus exact xx) | (apply rf; (focus exact xx); (focus exact xx); all_goals intro _; all_goals try first | contradiction | (exfalso; omega) | exact absurd trivial ‹_›) | (apply ra; (focus exact xx); (focus exact xx); intro _) | (apply r1; (focus exact xx); (focus exact xx); intro _) | (apply rl; (focus exact xx); (focus exact xx); intro _) | (apply rb; (focus exact xx); (focus exact xx); intro _) | (apply rt; (focus exact xx); (focus exact xx)) | (apply rsi; (focus exact xx); (focus exact xx)) | (apply rsz; (focus exact xx); (focus exact xx)) | (apply rso; (focus exact xx); (focus exact xx)) | (apply rmm; (focus exact xx); intro _) | (apply ru; (focus exact xx); (focus exact xx)) | (apply rm; (focus exact xx); (focus exact xx); intro _) | (apply rk; (focus exact xx); (focus exact xx); intro _) | (apply rc; (focus exact xx); (focus exact xx)) | (apply rk'; (focus exact xx); (focus exact xx))
  · refine fz ?_
    rw [he, drop_nth (by omega), spotF, if_pos (by omega)]; rfl
  · refine fr_next (by omega) sbc ⟨j - (nth h s).length, by omega, by omega, ?_, rfl, rfl⟩
    rw [he, drop_nth (by omega), spotF, if_neg (by omega)]
  · refine fz ?_
    rw [he, List.drop_of_length_le (by omega)]; rfl⟩
structure Item where
  s : Int
  p : Int
  w : Bool
  v : Int
  x : Int
  deriving Inhabited, DecidableEq
@[reducible] def eItem (t : Item) : V := .agg [.int .i64 t.s, .int .i64 t.p, .bool t.w, .int .i64 t.v, .int .i64 t.x]
@[reducible] def eI (n : Int) : V := .int .i64 n
structure Facts where
  vars : List (List UInt8)
  items : List Item
  from' : List Int
  deriving Inhabited, DecidableEq
@[reducible] def eFacts (f : Facts) : V := .agg [.lst (f.vars.map V.str), .lst (f.items.map eItem), .lst (f.from'.map eI)]
/-! What interning makes. -/
def inStep (st : List (List UInt8) × List Item) (q : Nat × Nat × Op) : List (List UInt8) × List Item :=
  (if q.2.2.v ∈ st.1 then st.1 else st.1 ++ [q.2.2.v], st.2 ++ [⟨q.1, q.2.1, q.2.2.w, (st.1.idxOf q.2.2.v : Nat), q.2.2.x⟩])
def rowOps (s : Nat) (l : List Op) (j : Nat) : List (Nat × Nat × Op) := (List.range j).map fun p => (s, p, nth l p)
def preOps (h : List (List Op)) (i : Nat) : List (Nat × Nat × Op) := (List.range i).flatMap fun s => rowOps s (nth h s) (nth h s).length
def internS (l : List (Nat × Nat × Op)) : List (List UInt8) × List Item := l.foldl inStep ([], [])
def internF (h : List (List Op)) : Facts := ⟨(internS (preOps h h.length)).1, (internS (preOps h h.length)).2, []⟩
theorem preOps_succ (h : List (List Op)) (i : Nat) : preOps h (i + 1) = preOps h i ++ rowOps i (nth h i) (nth h i).length := by
  simp [preOps, List.range_succ, List.flatMap_append]
theorem rowOps_succ (s : Nat) (l : List Op) (j : Nat) : rowOps s l (j + 1) = rowOps s l j ++ [(s, j, nth l j)] := by
  simp [rowOps, List.range_succ]
theorem internS_snoc (l : List (Nat × Nat × Op)) (q : Nat × Nat × Op) : internS (l ++ [q]) = inStep (internS l) q := by
  simp [internS, List.foldl_append]
theorem mget_mput (es : List (V × V)) (x v y : V) : mget (mput es x v) y = if x = y then some v else mget es y := by
  induction es with
  | nil => simp [mput, mget]
  | cons p r ih =>
    obtain ⟨k, u⟩ := p
    simp only [mput]
    by_cases h : k = x
    · rw [if_pos h]; subst h
      simp only [mget]
      by_cases h' : k = y <;> simp [h']
    · rw [if_neg h]
      simp only [mget, ih]
      by_cases h' : k = y
      · subst h'
        rw [if_pos rfl, if_neg (fun e => h e.symm), if_pos rfl]
      · simp [h']
def MapOk (vars : List (List UInt8)) (es : List (V × V)) : Prop := ∀ k, mget es (.str k) = if k ∈ vars then some (.int .i64 (vars.idxOf k : Nat)) else none
def inV (o : Option Facts) : V := match o with
  | some f => .tup [eFacts f, .int .i64 0]
  | none => .tup [eFacts default, .int .i64 1]
theorem inS_len (l : List (Nat × Nat × Op)) : (internS l).2.length = l.length ∧ (internS l).1.length ≤ l.length := by
  have key : ∀ (l : List (Nat × Nat × Op)) (st : List (List UInt8) × List Item), (l.foldl inStep st).2.length = st.2.length + l.length ∧ (l.foldl inStep st).1.length ≤ st.1.length + l.length := by
    intro l
    induction l with
    | nil => intro st; simp
    | cons q r ih =>
      intro st
      have := ih (inStep st q)
      simp only [List.foldl_cons, List.length_cons]
      have h1 : (inStep st q).2.length = st.2.length + 1 := by simp [inStep]
      have h2 : (inStep st q).1.length ≤ st.1.length + 1 := by
        simp only [inStep]; split <;> simp
      omega
  have := key l ([], [])
  simpa [internS] using this
theorem rowOps_len (s : Nat) (l : List Op) (j : Nat) : (rowOps s l j).length = j := by simp [rowOps]
theorem preOps_len {h : List (List Op)} : ∀ {i : Nat}, i ≤ h.length → (preOps h i).length = (h.take i).flatten.length
  | 0, _ => by simp [preOps]
  | i + 1, hi => by
    rw [preOps_succ, List.length_append, preOps_len (by omega), rowOps_len, flat_nth (by omega), List.length_append]
theorem map_put {vars : List (List UInt8)} {es : List (V × V)} {k : List UInt8} (hm : MapOk vars es) (hk : k ∉ vars) : MapOk (vars ++ [k]) (mput es (.str k) (.int .i64 (vars.length : Nat))) := by
  intro k'
  rw [mget_mput]
  by_cases e : k' = k
  · subst e
    simp [hk, List.idxOf_append]
  · have : V.str k ≠ V.str k' := by intro h; injection h with h; exact e h.symm
    rw [if_neg this, hm]
    by_cases h1 : k' ∈ vars
    · rw [if_pos h1, if_pos (by simp [h1]), List.idxOf_append, if_pos h1]
    · rw [if_neg h1, if_neg (by simp [h1, e])]
theorem in_old {P : List (Nat × Nat × Op)} {s j : Nat} {o : Op} (h : o.v ∈ (internS P).1) : internS (P ++ [(s, j, o)]) = ((internS P).1, (internS P).2 ++ [⟨s, j, o.w, ((internS P).1.idxOf o.v : Nat), o.x⟩]) := by
  rw [internS_snoc]; simp [inStep, h]
theorem in_new {P : List (Nat × Nat × Op)} {s j : Nat} {o : Op} (h : o.v ∉ (internS P).1) : internS (P ++ [(s, j, o)]) = ((internS P).1 ++ [o.v], (internS P).2 ++ [⟨s, j, o.w, ((internS P).1.length : Nat), o.x⟩]) := by
  rw [internS_snoc]; simp [inStep, h, List.idxOf_eq_length h]
set_option maxHeartbeats 4000000 in
instance intern_Of (h : List (List Op)) : PCon T0 n.intern_Of [eH h] false (hb h ∧ ∀ o ∈ h.flatten, o.v.length ≤ 1048576) (inV (if rightB h then some (internF h) else none)) := ⟨fun ⟨b, bn⟩ => by
  refine pc tabOk ?_
  have hn := b.1
  repeat' first | refine wh_seq ?_ | refine wh_skip ?_ | refine wh_block ?_ | refine wh_end ?_ | refine wh_exit ?_ | refine wh_ret ?_ | refine bk_norm ?_ | refine bk_exit ?_ | refine bk_ret ?_ | refine fr_exit ?_ | refine fr_ret ?_ | refine lp_exit ?_ | refine lp_ret ?_ | refine bk_other rfl ?_ | (apply wr; focus exact xx) | (apply wi; (focus exact xx); (focus exact xx); all_goals intro _; all_goals try first | contradiction | (exfalso; omega) | exact absurd trivial ‹_›) | refine wh_reg ?_ | refine wh_raw ?_ | (apply dr_fin; (focus exact xx)) | (apply dr_v; (focus exact xd)) | (apply dr_r; (focus exact xd)) | (apply dr_l; (focus exact RF.mk rfl); (focus exact RF.mk rfl); (focus exact RF.mk rfl); (focus exact RF.mk rfl); (focus exact RF.mk rfl)) | (apply dr_e; (focus exact RF.mk rfl); (focus exact RF.mk rfl); (focus exact RF.mk rfl); (focus exact RF.mk rfl)) | (apply rd_e; (focus exact xx); (focus exact xd)) | (apply rd_l; (focus exact xx)) | refine wh_ife ?_ | (apply re; focus exact xx) | (apply rf; (focus exact xx); (focus exact xx); all_goals intro _; all_goals try first | contradiction | (exfalso; omega) | exact absurd trivial ‹_›) | (apply ra; (focus exact xx); (focus exact xx); intro _) | (apply r1; (focus exact xx); (focus exact xx); intro _) | (apply rl; (focus exact xx); (focus exact xx); intro _) | (apply rb; (focus exact xx); (focus exact xx); intro _) | (apply rt; (focus exact xx); (focus exact xx)) | (apply rsi; (focus exact xx); (focus exact xx)) | (apply rsz; (focus exact xx); (focus exact xx)) | (apply rso; (focus exact xx); (focus exact xx)) | (apply rmm; (focus exact xx); intro _) | (apply ru; (focus exact xx); (focus exact xx)) | (apply rm; (focus exact xx); (focus exact xx); intro _) | (apply rk; (focus exact xx); (focus exact xx); intro _) | (apply rc; (focus exact xx); (focus exact xx)) | (apply rk'; (focus exact xx); (focus exact xx))
  · rename_i hr
    rw [if_neg hr]; exact fz rfl
  rename_i i2 hr i4 i5
  rw [if_pos (by simpa using hr)]
  refine wn 1 true ?_
  refine wn 5 true ?_
  refine wh_count h.length (fun i A L => ∃ g0 g1 es, MapOk (internS (preOps h i)).1 es ∧ A = [(2, .ptr i2 3 0 0), (4, .ptr i4 3 0 0), (5, .map i5), (17, eH h), (18, .int .i64 (h.length : Nat)), (19, .int .i64 (i : Nat))] ∧ L = [.own g1 5 true ((internS (preOps h i)).2.map eItem), .own g0 1 true ((internS (preOps h i)).1.map V.str), .ob i5 (.map (.one .str) es), .ob i4 (.row 3 false [.agg [Hd.v g0, Hd.v g1, .nil]]), .ob i2 (.row 3 false [.agg [.nil, .nil, .nil]])]) ⟨.nil, .nil, [], fun k => by simp [internS, preOps, mget], rfl, rfl⟩ ?_
  rintro i A L hi ⟨g0, g1, es, hm, rfl, rfl⟩
  repeat' first | refine wh_seq ?_ | refine wh_skip ?_ | refine wh_block ?_ | refine wh_end ?_ | refine wh_exit ?_ | refine wh_ret ?_ | refine bk_norm ?_ | refine bk_exit ?_ | refine bk_ret ?_ | refine fr_exit ?_ | refine fr_ret ?_ | refine lp_exit ?_ | refine lp_ret ?_ | refine bk_other rfl ?_ | (apply wr; focus exact xx) | (apply wi; (focus exact xx); (focus exact xx); all_goals intro _; all_goals try first | contradiction | (exfalso; omega) | exact absurd trivial ‹_›) | refine wh_reg ?_ | refine wh_raw ?_ | (apply dr_fin; (focus exact xx)) | (apply dr_v; (focus exact xd)) | (apply dr_r; (focus exact xd)) | (apply dr_l; (focus exact RF.mk rfl); (focus exact RF.mk rfl); (focus exact RF.mk rfl); (focus exact RF.mk rfl); (focus exact RF.mk rfl)) | (apply dr_e; (focus exact RF.mk rfl); (focus exact RF.mk rfl); (focus exact RF.mk rfl); (focus exact RF.mk rfl)) | (apply rd_e; (focus exact xx); (focus exact xd)) | (apply rd_l; (focus exact xx)) | refine wh_ife ?_ | (apply re; focus exact xx) | (apply rf; (focus exact xx); (focus exact xx); all_goals intro _; all_goals try first | contradiction | (exfalso; omega) | exact absurd trivial ‹_›) | (apply ra; (focus exact xx); (focus exact xx); intro _) | (apply r1; (focus exact xx); (focus exact xx); intro _) | (apply rl; (focus exact xx); (focus exact xx); intro _) | (apply rb; (focus exact xx); (focus exact xx); intro _) | (apply rt; (focus exact xx); (focus exact xx)) | (apply rsi; (focus exact xx); (focus exact xx)) | (apply rsz; (focus exact xx); (focus exact xx)) | (apply rso; (focus exact xx); (focus exact xx)) | (apply rmm; (focus exact xx); intro _) | (apply ru; (focus exact xx); (focus exact xx)) | (apply rm; (focus exact xx); (focus exact xx); intro _) | (apply rk; (focus exact xx); (focus exact xx); intro _) | (apply rc; (focus exact xx); (focus exact xx)) | (apply rk'; (focus exact xx); (focus exact xx))
  · refine wh_count (nth h i).length (fun j A L => ∃ g0 g1 es, MapOk (internS (preOps h i ++ rowOps i (nth h i) j)).1 es ∧ A = [(2, .ptr i2 3 0 0), (4, .ptr i4 3 0 0), (5, .map i5), (6, .int .i64 (i : Nat)), (17, eH h), (18, .int .i64 (h.length : Nat)), (19, .int .i64 (i : Nat)), (24, eOps (nth h i)), (25, .int .i64 ((nth h i).length : Nat)), (26, .int .i64 (j : Nat))] ∧ L = [.own g1 5 true ((internS (preOps h i ++ rowOps i (nth h i) j)).2.map eItem), .own g0 1 true ((internS (preOps h i ++ rowOps i (nth h i) j)).1.map V.str), .ob i5 (.map (.one .str) es), .ob i4 (.row 3 false [.agg [Hd.v g0, Hd.v g1, .nil]]), .ob i2 (.row 3 false [.agg [.nil, .nil, .nil]])]) ⟨g0, g1, es, by simpa [rowOps] using hm, rfl, by simp [rowOps]⟩ ?_
    rintro j A L hj ⟨g0, g1, es, hm, rfl, rfl⟩
    have hlt : i < h.length := by omega
    have hfl := flat_len hlt
    have hfb := b.2
    have hln := inS_len (preOps h i ++ rowOps i (nth h i) j)
    rw [List.length_append, preOps_len (by omega), rowOps_len] at hln
    have hsn : ∀ P, P = preOps h i ++ rowOps i (nth h i) j → preOps h i ++ rowOps i (nth h i) (j + 1) = P ++ [(i, j, nth (nth h i) j)] := by
      rintro P rfl; rw [rowOps_succ, List.append_assoc]
    generalize hP : preOps h i ++ rowOps i (nth h i) j = P at *
    have hsn := hsn P rfl
    by_cases hmem : (nth (nth h i) j).v ∈ (internS P).1
    · have hL : LK (.one .str) (.int .i64 0) true es (.str (nth (nth h i) j).v) (.tup [.int .i64 ((internS P).1.idxOf (nth (nth h i) j).v : Nat), .bool true]) := ⟨by rw [hm, if_pos hmem]; rfl⟩
      repeat' first | refine wh_seq ?_ | refine wh_skip ?_ | refine wh_block ?_ | refine wh_end ?_ | refine wh_exit ?_ | refine wh_ret ?_ | refine bk_norm ?_ | refine bk_exit ?_ | refine bk_ret ?_ | refine fr_exit ?_ | refine fr_ret ?_ | refine lp_exit ?_ | refine lp_ret ?_ | refine bk_other rfl ?_ | (apply wr; focus exact xx) | (apply wi; (focus exact xx); (focus exact xx); all_goals intro _; all_goals try first | contradiction | (exfalso; omega) | exact absurd trivial ‹_›) | refine wh_reg ?_ | refine wh_raw ?_ | (apply dr_fin; (focus exact xx)) | (apply dr_v; (focus exact xd)) | (apply dr_r; (focus exact xd)) | (apply dr_l; (focus exact RF.mk rfl); (focus exact RF.mk rfl); (focus exact RF.mk rfl); (focus exact RF.mk rfl); (focus exact RF.mk rfl)) | (apply dr_e; (focus exact RF.mk rfl); (focus exact RF.mk rfl); (focus exact RF.mk rfl); (focus exact RF.mk rfl)) | (apply rd_e; (focus exact xx); (focus exact xd)) | (apply rd_l; (focus exact xx)) | refine wh_ife ?_ | (apply re; focus exact xx) | (apply rf; (focus exact xx); (focus exact xx); all_goals intro _; all_goals try first | contradiction | (exfalso; omega) | exact absurd trivial ‹_›) | (apply ra; (focus exact xx); (focus exact xx); intro _) | (apply r1; (focus exact xx); (focus exact xx); intro _) | (apply rl; (focus exact xx); (focus exact xx); intro _) | (apply rb; (focus exact xx); (focus exact xx); intro _) | (apply rt; (focus exact xx); (focus exact xx)) | (apply rsi; (focus exact xx); (focus exact xx)) | (apply rsz; (focus exact xx); (focus exact xx)) | (apply rso; (focus exact xx); (focus exact xx)) | (apply rmm; (focus exact xx); intro _) | (apply ru; (focus exact xx); (focus exact xx)) | (apply rm; (focus exact xx); (focus exact xx); intro _) | (apply rk; (focus exact xx); (focus exact xx); intro _) | (apply rc; (focus exact xx); (focus exact xx)) | (apply rk'; (focus exact xx); (focus exact xx))
      · exact fr_next (by omega) (List.drop_sublist 2 _) ⟨g0, _, es, by rw [hsn, in_old hmem]; exact hm, rfl, by rw [hsn, in_old hmem, List.map_append]; rfl⟩
      · obtain rfl : j = (nth h i).length := by omega
        exact fr_next (by omega) sbc ⟨g0, g1, es, by rw [preOps_succ, hP]; exact hm, rfl, by rw [preOps_succ, hP]⟩
    · have hL : LK (.one .str) (.int .i64 0) true es (.str (nth (nth h i) j).v) (.tup [.int .i64 0, .bool false]) := ⟨by rw [hm, if_neg hmem]; rfl⟩
      repeat' first | refine wh_seq ?_ | refine wh_skip ?_ | refine wh_block ?_ | refine wh_end ?_ | refine wh_exit ?_ | refine wh_ret ?_ | refine bk_norm ?_ | refine bk_exit ?_ | refine bk_ret ?_ | refine fr_exit ?_ | refine fr_ret ?_ | refine lp_exit ?_ | refine lp_ret ?_ | refine bk_other rfl ?_ | (apply wr; focus exact xx) | (apply wi; (focus exact xx); (focus exact xx); all_goals intro _; all_goals try first | contradiction | (exfalso; omega) | exact absurd trivial ‹_›) | refine wh_reg ?_ | refine wh_raw ?_ | (apply dr_fin; (focus exact xx)) | (apply dr_v; (focus exact xd)) | (apply dr_r; (focus exact xd)) | (apply dr_l; (focus exact RF.mk rfl); (focus exact RF.mk rfl); (focus exact RF.mk rfl); (focus exact RF.mk rfl); (focus exact RF.mk rfl)) | (apply dr_e; (focus exact RF.mk rfl); (focus exact RF.mk rfl); (focus exact RF.mk rfl); (focus exact RF.mk rfl)) | (apply rd_e; (focus exact xx); (focus exact xd)) | (apply rd_l; (focus exact xx)) | refine wh_ife ?_ | (apply re; focus exact xx) | (apply rf; (focus exact xx); (focus exact xx); all_goals intro _; all_goals try first | contradiction | (exfalso; omega) | exact absurd trivial ‹_›) | (apply ra; (focus exact xx); (focus exact xx); intro _) | (apply r1; (focus exact xx); (focus exact xx); intro _) | (apply rl; (focus exact xx); (focus exact xx); intro _) | (apply rb; (focus exact xx); (focus exact xx); intro _) | (apply rt; (focus exact xx); (focus exact xx)) | (apply rsi; (focus exact xx); (focus exact xx)) | (apply rsz; (focus exact xx); (focus exact xx)) | (apply rso; (focus exact xx); (focus exact xx)) | (apply rmm; (focus exact xx); intro _) | (apply ru; (focus exact xx); (focus exact xx)) | (apply rm; (focus exact xx); (focus exact xx); intro _) | (apply rk; (focus exact xx); (focus exact xx); intro _) | (apply rc; (focus exact xx); (focus exact xx)) | (apply rk'; (focus exact xx); (focus exact xx))
      · exact fr_next (by omega) (List.drop_sublist 3 _) ⟨_, _, _, by rw [hsn, in_new hmem]; exact map_put hm hmem, rfl, by rw [hsn, in_new hmem, List.map_append, List.map_append]; rfl⟩
      · obtain rfl : j = (nth h i).length := by omega
        exact fr_next (by omega) sbc ⟨g0, g1, es, by rw [preOps_succ, hP]; exact hm, rfl, by rw [preOps_succ, hP]⟩
  · obtain rfl : i = h.length := by omega
    exact fz rfl⟩
end Go.AM

set_option linter.unusedVariables false
set_option linter.unusedSimpArgs false
namespace Go.AM
attribute [-simp] List.length_flatten List.map_flatten List.map_take List.map_map List.flatten_append
def exH : List (List Op) := [[⟨true, [120], 1⟩, ⟨false, [121], 0⟩]]
def exG : List (List Op) := [[⟨false, [], 0⟩]]
theorem exH_v : inV (if rightB exH then some (internF exH) else none) = .tup [eFacts ⟨[[120], [121]], [⟨0, 0, true, 0, 1⟩, ⟨0, 1, false, 1, 0⟩], []⟩, .int .i64 0] := by decide +kernel
theorem exG_v : inV (if rightB exG then some (internF exG) else none) = .tup [eFacts default, .int .i64 1] := by decide +kernel
instance awake09 : PCon T0 n.law09_awake [] false True (.bool true) := ⟨fun _ => by
  have h1 : hb exH ∧ ∀ o ∈ exH.flatten, o.v.length ≤ 1048576 := ⟨⟨by decide, by decide⟩, by decide⟩
  have h2 : hb exG ∧ ∀ o ∈ exG.flatten, o.v.length ≤ 1048576 := ⟨⟨by decide, by decide⟩, by decide⟩
  have c1 : PCon T0 n.intern_Of [eH exH] false True _ := ⟨fun _ => by have := (intern_Of exH).con h1; rw [exH_v] at this; exact this⟩
  have c2 : PCon T0 n.intern_Of [eH exG] false True _ := ⟨fun _ => by have := (intern_Of exG).con h2; rw [exG_v] at this; exact this⟩
  refine pc tabOk ?_
  repeat' first | refine wh_seq ?_ | refine wh_skip ?_ | refine wh_block ?_ | refine wh_end ?_ | refine wh_exit ?_ | refine wh_ret ?_ | refine bk_norm ?_ | refine bk_exit ?_ | refine bk_ret ?_ | refine fr_exit ?_ | refine fr_ret ?_ | refine lp_exit ?_ | refine lp_ret ?_ | refine bk_other rfl ?_ | (apply wr; focus exact xx) | (apply wi; (focus exact xx); (focus exact xx); all_goals intro _; all_goals try first | contradiction | (exfalso; omega) | exact absurd trivial ‹_›) | refine wh_reg ?_ | refine wh_raw ?_ | (apply dr_fin; (focus exact xx)) | (apply dr_v; (focus exact xd)) | (apply dr_r; (focus exact xd)) | (apply dr_l; (focus exact RF.mk rfl); (focus exact RF.mk rfl); (focus exact RF.mk rfl); (focus exact RF.mk rfl); (focus exact RF.mk rfl)) | (apply dr_e; (focus exact RF.mk rfl); (focus exact RF.mk rfl); (focus exact RF.mk rfl); (focus exact RF.mk rfl)) | (apply rd_e; (focus exact xx); (focus exact xd)) | (apply rd_l; (focus exact xx)) | refine wh_ife ?_ | (apply re; focus exact xx) | (apply rf; (focus exact xx); (focus exact xx); all_goals intro _; all_goals try first | contradiction | (exfalso; omega) | exact absurd trivial ‹_›) | (apply ra; (focus exact xx); (focus exact xx); intro _) | (apply r1; (focus exact xx); (focus exact xx); intro _) | (apply rl; (focus exact xx); (focus exact xx); intro _) | (apply rb; (focus exact xx); (focus exact xx); intro _) | (apply rt; (focus exact xx); (focus exact xx)) | (apply rsi; (focus exact xx); (focus exact xx)) | (apply rsz; (focus exact xx); (focus exact xx)) | (apply rso; (focus exact xx); (focus exact xx)) | (apply rmm; (focus exact xx); intro _) | (apply ru; (focus exact xx); (focus exact xx)) | (apply rm; (focus exact xx); (focus exact xx); intro _) | (apply rk; (focus exact xx); (focus exact xx); intro _) | (apply rc; (focus exact xx); (focus exact xx)) | (apply rk'; (focus exact xx); (focus exact xx))
  refine fz ?_
  decide +kernel⟩
/-! What interning makes, item by item. -/
theorem nth_lo {α : Type} [Inhabited α] {l r : List α} {i : Nat} (h : i < l.length) : nth (l ++ r) i = nth l i := by
  rw [nth_eq h, nth_eq (by simp; omega), List.getElem_append_left h]
theorem nth_hi {α : Type} [Inhabited α] {l r : List α} {i : Nat} (h : l.length ≤ i) (h2 : i < l.length + r.length) : nth (l ++ r) i = nth r (i - l.length) := by
  rw [nth_eq (by simp; omega), nth_eq (by omega), List.getElem_append_right h]
theorem nth_take {α : Type} [Inhabited α] {l : List α} {i k : Nat} (h : i < k) (h2 : i < l.length) : nth (l.take k) i = nth l i := by
  rw [nth_eq (by simp; omega), nth_eq h2, List.getElem_take]
def Good (P : List (Nat × Nat × Op)) : Prop := ∀ i, i < P.length → (nth (internS P).2 i).s = (nth P i).1 ∧ (nth (internS P).2 i).p = (nth P i).2.1 ∧ (nth (internS P).2 i).w = (nth P i).2.2.w ∧ (nth (internS P).2 i).x = (nth P i).2.2.x ∧ ∃ v : Nat, (nth (internS P).2 i).v = v ∧ v < (internS P).1.length ∧ nth (internS P).1 v = (nth P i).2.2.v
theorem good_snoc {P : List (Nat × Nat × Op)} {q : Nat × Nat × Op} (h : Good P) : Good (P ++ [q]) := by
  intro i hi
  have hl := inS_len P
  obtain ⟨s, p, o⟩ := q
  by_cases hm : o.v ∈ (internS P).1
  · rw [in_old hm]
    by_cases he : i < P.length
    · rw [nth_lo he, nth_lo (by omega)]; exact h i he
    · have : i = P.length := by simp at hi; omega
      subst this
      rw [nth_hi (l := P) (by omega) (by simp), nth_hi (l := (internS P).2) (by omega) (by simp; omega), hl.1, Nat.sub_self]
      refine ⟨rfl, rfl, rfl, rfl, _, rfl, List.idxOf_lt_length_of_mem hm, ?_⟩
      rw [nth_eq (List.idxOf_lt_length_of_mem hm)]
      simp [nth]
  · rw [in_new hm]
    by_cases he : i < P.length
    · rw [nth_lo he, nth_lo (by omega)]
      obtain ⟨h1, h2, h3, h4, v, h5, h6, h7⟩ := h i he
      exact ⟨h1, h2, h3, h4, v, h5, by simp; omega, by rw [nth_lo h6]; exact h7⟩
    · have : i = P.length := by simp at hi; omega
      subst this
      rw [nth_hi (l := P) (by omega) (by simp), nth_hi (l := (internS P).2) (by omega) (by simp; omega), hl.1, Nat.sub_self]
      refine ⟨rfl, rfl, rfl, rfl, _, rfl, by simp, ?_⟩
      rw [nth_hi (by omega) (by simp), Nat.sub_self]; rfl
theorem good_all (P : List (Nat × Nat × Op)) : Good P := by
  have : ∀ k, k ≤ P.length → Good (P.take k) := by
    intro k
    induction k with
    | zero => intro _ i hi; simp at hi
    | succ k ih => intro hk; rw [take_nth (by omega)]; exact good_snoc (ih (by omega))
  have := this P.length (by omega)
  rwa [List.take_length] at this
def allFrom : Nat → List (List Op) → List (Nat × Nat × Op)
  | _, [] => []
  | s, l :: r => rowOps s l l.length ++ allFrom (s + 1) r
theorem pre_all : ∀ (h : List (List Op)) (s : Nat), (List.range h.length).flatMap (fun k => rowOps (s + k) (nth h k) (nth h k).length) = allFrom s h
  | [], s => rfl
  | l :: r, s => by
    rw [List.length_cons, List.range_succ_eq_map, List.flatMap_cons, List.flatMap_map]
    have := pre_all r (s + 1)
    rw [allFrom, ← this]
    congr 1
    congr 1
    funext k
    rw [show s + (k + 1) = s + 1 + k by omega]
    rfl
theorem preOps_all (h : List (List Op)) : preOps h h.length = allFrom 0 h := by
  rw [← pre_all]; simp [preOps]
theorem rowOps_nth {s j k : Nat} {l : List Op} (h : k < j) : nth (rowOps s l j) k = (s, k, nth l k) := by
  rw [nth_eq (by rw [rowOps_len]; exact h)]; simp [rowOps]
theorem all_spot : ∀ (h : List (List Op)) (s i : Nat), i < h.flatten.length → ∃ s' p' : Nat, nth (allFrom s h) i = (s', p', nth h.flatten i) ∧ spotF h s i = some (s', (p' : Int)) ∧ i < (allFrom s h).length
  | [], s, i, hi => by simp at hi
  | l :: r, s, i, hi => by
    rw [List.flatten_cons, List.length_append] at hi
    simp only [allFrom, List.flatten_cons, spotF]
    by_cases h1 : i < l.length
    · rw [nth_lo (by rw [rowOps_len]; exact h1), rowOps_nth h1, nth_lo h1, if_pos (by omega)]
      exact ⟨s, i, rfl, rfl, by rw [List.length_append, rowOps_len]; omega⟩
    · obtain ⟨s', p', h2, h3, h4⟩ := all_spot r (s + 1) (i - l.length) (by omega)
      rw [nth_hi (l := rowOps s l l.length) (by rw [rowOps_len]; omega) (by rw [rowOps_len]; omega), rowOps_len, nth_hi (by omega) hi, if_neg (by omega)]
      refine ⟨s', p', h2, ?_, by rw [List.length_append, rowOps_len]; omega⟩
      rw [← h3]; congr 1; omega
theorem intern_spot {h : List (List Op)} {i : Nat} (hi : i < h.flatten.length) : ∃ (s p v : Nat), spotF h 0 i = some (s, (p : Int)) ∧ nth (internF h).items i = ⟨s, p, (nth h.flatten i).w, v, (nth h.flatten i).x⟩ ∧ v < (internF h).vars.length ∧ nth (internF h).vars v = (nth h.flatten i).v := by
  obtain ⟨s, p, h1, h2, h3⟩ := all_spot h 0 i hi
  have hg := good_all (preOps h h.length) i (by rw [preOps_all]; exact h3)
  rw [preOps_all, h1, ← preOps_all] at hg
  obtain ⟨g1, g2, g3, g4, v, g5, g6, g7⟩ := hg
  refine ⟨s, p, v, h2, ?_, g6, g7⟩
  show nth (internS (preOps h h.length)).2 i = _
  rw [← g1, ← g2, ← g3, ← g4, ← g5]
theorem intern_len (h : List (List Op)) : (internF h).items.length = h.flatten.length := by
  show (internS (preOps h h.length)).2.length = _
  rw [(inS_len _).1, preOps_len (by omega), List.take_length]
end Go.AM

set_option linter.unusedVariables false
set_option linter.unusedSimpArgs false
namespace Go.AM
attribute [-simp] List.length_flatten List.map_flatten List.map_take List.map_map List.flatten_append
@[reducible] def eStrs (l : List (List UInt8)) : V := .lst (l.map V.str)
@[reducible] def eItems (l : List Item) : V := .lst (l.map eItem)
@[reducible] def eInts (l : List Int) : V := .lst (l.map eI)
theorem eItem_inj {t u : Item} : ([V.int .i64 t.s, .int .i64 t.p, .bool t.w, .int .i64 t.v, .int .i64 t.x] = [V.int .i64 u.s, .int .i64 u.p, .bool u.w, .int .i64 u.v, .int .i64 u.x]) ↔ t = u := by
  cases t; cases u; simp
theorem eOp_inj {t u : Op} : ([V.bool t.w, .str t.v, .int .i64 t.x] = [V.bool u.w, .str u.v, .int .i64 u.x]) ↔ t = u := by
  cases t; cases u; simp
section
variable {α : Type} [Inhabited α] {a b : List α} {i : Nat}
theorem eq_step (hl : a.length = b.length) (hi : i < a.length) (h : a.take i = b.take i) (he : nth a i = nth b i) : a.take (i + 1) = b.take (i + 1) := by
  rw [take_nth hi, take_nth (by omega), h, he]
omit [Inhabited α] in
theorem eq_end (hl : a.length = b.length) (hi : i = a.length) (h : a.take i = b.take i) : a = b := by
  rw [hi, List.take_length, hl, List.take_length] at h; exact h
theorem ne_at (he : ¬ nth a i = nth b i) : ¬ a = b := fun h => he (by rw [h])
omit [Inhabited α] in
theorem ne_len (he : ¬ a.length = b.length) : ¬ a = b := fun h => he (by rw [h])
end
theorem ff {p : Prop} [Decidable p] (h : ¬ p) : V.bool false = V.bool (decide p) := by rw [decide_eq_false h]
theorem tt {p : Prop} [Decidable p] (h : p) : V.bool true = V.bool (decide p) := by rw [decide_eq_true h]
instance ref09_texts (a b : List (List UInt8)) : PCon T0 n.ref09_texts [eStrs a, eStrs b] false (a.length ≤ 1048576) (.bool (decide (a = b))) := ⟨fun hb => by
  refine pc tabOk ?_
  repeat' first | refine wh_seq ?_ | refine wh_skip ?_ | refine wh_block ?_ | refine wh_end ?_ | refine wh_exit ?_ | refine wh_ret ?_ | refine bk_norm ?_ | refine bk_exit ?_ | refine bk_ret ?_ | refine fr_exit ?_ | refine fr_ret ?_ | refine lp_exit ?_ | refine lp_ret ?_ | refine bk_other rfl ?_ | (apply wr; focus exact xx) | (apply wi; (focus exact xx); (focus exact xx); all_goals intro _; all_goals try first | contradiction | (exfalso; omega) | exact absurd trivial ‹_›) | refine wh_reg ?_ | refine wh_raw ?_ | (apply dr_fin; (focus exact xx)) | (apply dr_v; (focus exact xd)) | (apply dr_r; (focus exact xd)) | (apply dr_l; (focus exact RF.mk rfl); (focus exact RF.mk rfl); (focus exact RF.mk rfl); (focus exact RF.mk rfl); (focus exact RF.mk rfl)) | (apply dr_e; (focus exact RF.mk rfl); (focus exact RF.mk rfl); (focus exact RF.mk rfl); (focus exact RF.mk rfl)) | (apply rd_e; (focus exact xx); (focus exact xd)) | (apply rd_l; (focus exact xx)) | refine wh_ife ?_ | (apply re; focus exact xx) | (apply rf; (focus exact xx); (focus exact xx); all_goals intro _; all_goals try first | contradiction | (exfalso; omega) | exact absurd trivial ‹_›) | (apply ra; (focus exact xx); (focus exact xx); intro _) | (apply r1; (focus exact xx); (focus exact xx); intro _) | (apply rl; (focus exact xx); (focus exact xx); intro _) | (apply rb; (focus exact xx); (focus exact xx); intro _) | (apply rt; (focus exact xx); (focus exact xx)) | (apply rsi; (focus exact xx); (focus exact xx)) | (apply rsz; (focus exact xx); (focus exact xx)) | (apply rso; (focus exact xx); (focus exact xx)) | (apply rmm; (focus exact xx); intro _) | (apply ru; (focus exact xx); (focus exact xx)) | (apply rm; (focus exact xx); (focus exact xx); intro _) | (apply rk; (focus exact xx); (focus exact xx); intro _) | (apply rc; (focus exact xx); (focus exact xx)) | (apply rk'; (focus exact xx); (focus exact xx))
  · exact fz (ff (ne_len (by omega)))
  refine wh_count a.length (fun i A L => A = [(0, eStrs a), (1, eStrs b), (5, .int .i64 (i : Nat))] ∧ L = [] ∧ a.take i = b.take i) ⟨rfl, rfl, rfl⟩ ?_
  rintro i A L hi ⟨rfl, rfl, ha⟩
  repeat' first | refine wh_seq ?_ | refine wh_skip ?_ | refine wh_block ?_ | refine wh_end ?_ | refine wh_exit ?_ | refine wh_ret ?_ | refine bk_norm ?_ | refine bk_exit ?_ | refine bk_ret ?_ | refine fr_exit ?_ | refine fr_ret ?_ | refine lp_exit ?_ | refine lp_ret ?_ | refine bk_other rfl ?_ | (apply wr; focus exact xx) | (apply wi; (focus exact xx); (focus exact xx); all_goals intro _; all_goals try first | contradiction | (exfalso; omega) | exact absurd trivial ‹_›) | refine wh_reg ?_ | refine wh_raw ?_ | (apply dr_fin; (focus exact xx)) | (apply dr_v; (focus exact xd)) | (apply dr_r; (focus exact xd)) | (apply dr_l; (focus exact RF.mk rfl); (focus exact RF.mk rfl); (focus exact RF.mk rfl); (focus exact RF.mk rfl); (focus exact RF.mk rfl)) | (apply dr_e; (focus exact RF.mk rfl); (focus exact RF.mk rfl); (focus exact RF.mk rfl); (focus exact RF.mk rfl)) | (apply rd_e; (focus exact xx); (focus exact xd)) | (apply rd_l; (focus exact xx)) | refine wh_ife ?_ | (apply re; focus exact xx) | (apply rf; (focus exact xx); (focus exact xx); all_goals intro _; all_goals try first | contradiction | (exfalso; omega) | exact absurd trivial ‹_›) | (apply ra; (focus exact xx); (focus exact xx); intro _) | (apply r1; (focus exact xx); (focus exact xx); intro _) | (apply rl; (focus exact xx); (focus exact xx); intro _) | (apply rb; (focus exact xx); (focus exact xx); intro _) | (apply rt; (focus exact xx); (focus exact xx)) | (apply rsi; (focus exact xx); (focus exact xx)) | (apply rsz; (focus exact xx); (focus exact xx)) | (apply rso; (focus exact xx); (focus exact xx)) | (apply rmm; (focus exact xx); intro _) | (apply ru; (focus exact xx); (focus exact xx)) | (apply rm; (focus exact xx); (focus exact xx); intro _) | (apply rk; (focus exact xx); (focus exact xx); intro _) | (apply rc; (focus exact xx); (focus exact xx)) | (apply rk'; (focus exact xx); (focus exact xx))
  · exact fz (ff (ne_at ‹_›))
  · exact fr_next (by omega) sbc ⟨rfl, rfl, eq_step (by omega) (by omega) ha (by simpa using ‹¬ ¬ _›)⟩
  · exact fz (tt (eq_end (by omega) (by omega) ha))⟩
instance ref02_Ints (a b : List Int) : PCon T0 n.ref02_Ints [eInts a, eInts b] false (a.length ≤ 1048576) (.bool (decide (a = b))) := ⟨fun hb => by
  refine pc tabOk ?_
  repeat' first | refine wh_seq ?_ | refine wh_skip ?_ | refine wh_block ?_ | refine wh_end ?_ | refine wh_exit ?_ | refine wh_ret ?_ | refine bk_norm ?_ | refine bk_exit ?_ | refine bk_ret ?_ | refine fr_exit ?_ | refine fr_ret ?_ | refine lp_exit ?_ | refine lp_ret ?_ | refine bk_other rfl ?_ | (apply wr; focus exact xx) | (apply wi; (focus exact xx); (focus exact xx); all_goals intro _; all_goals try first | contradiction | (exfalso; omega) | exact absurd trivial ‹_›) | refine wh_reg ?_ | refine wh_raw ?_ | (apply dr_fin; (focus exact xx)) | (apply dr_v; (focus exact xd)) | (apply dr_r; (focus exact xd)) | (apply dr_l; (focus exact RF.mk rfl); (focus exact RF.mk rfl); (focus exact RF.mk rfl); (focus exact RF.mk rfl); (focus exact RF.mk rfl)) | (apply dr_e; (focus exact RF.mk rfl); (focus exact RF.mk rfl); (focus exact RF.mk rfl); (focus exact RF.mk rfl)) | (apply rd_e; (focus exact xx); (focus exact xd)) | (apply rd_l; (focus exact xx)) | refine wh_ife ?_ | (apply re; focus exact xx) | (apply rf; (focus exact xx); (focus exact xx); all_goals intro _; all_goals try first | contradiction | (exfalso; omega) | exact absurd trivial ‹_›) | (apply ra; (focus exact xx); (focus exact xx); intro _) | (apply r1; (focus exact xx); (focus exact xx); intro _) | (apply rl; (focus exact xx); (focus exact xx); intro _) | (apply rb; (focus exact xx); (focus exact xx); intro _) | (apply rt; (focus exact xx); (focus exact xx)) | (apply rsi; (focus exact xx); (focus exact xx)) | (apply rsz; (focus exact xx); (focus exact xx)) | (apply rso; (focus exact xx); (focus exact xx)) | (apply rmm; (focus exact xx); intro _) | (apply ru; (focus exact xx); (focus exact xx)) | (apply rm; (focus exact xx); (focus exact xx); intro _) | (apply rk; (focus exact xx); (focus exact xx); intro _) | (apply rc; (focus exact xx); (focus exact xx)) | (apply rk'; (focus exact xx); (focus exact xx))
  · exact fz (ff (ne_len (by omega)))
  refine wh_count a.length (fun i A L => A = [(0, eInts a), (1, eInts b), (5, .int .i64 (i : Nat))] ∧ L = [] ∧ a.take i = b.take i) ⟨rfl, rfl, rfl⟩ ?_
  rintro i A L hi ⟨rfl, rfl, ha⟩
  repeat' first | refine wh_seq ?_ | refine wh_skip ?_ | refine wh_block ?_ | refine wh_end ?_ | refine wh_exit ?_ | refine wh_ret ?_ | refine bk_norm ?_ | refine bk_exit ?_ | refine bk_ret ?_ | refine fr_exit ?_ | refine fr_ret ?_ | refine lp_exit ?_ | refine lp_ret ?_ | refine bk_other rfl ?_ | (apply wr; focus exact xx) | (apply wi; (focus exact xx); (focus exact xx); all_goals intro _; all_goals try first | contradiction | (exfalso; omega) | exact absurd trivial ‹_›) | refine wh_reg ?_ | refine wh_raw ?_ | (apply dr_fin; (focus exact xx)) | (apply dr_v; (focus exact xd)) | (apply dr_r; (focus exact xd)) | (apply dr_l; (focus exact RF.mk rfl); (focus exact RF.mk rfl); (focus exact RF.mk rfl); (focus exact RF.mk rfl); (focus exact RF.mk rfl)) | (apply dr_e; (focus exact RF.mk rfl); (focus exact RF.mk rfl); (focus exact RF.mk rfl); (focus exact RF.mk rfl)) | (apply rd_e; (focus exact xx); (focus exact xd)) | (apply rd_l; (focus exact xx)) | refine wh_ife ?_ | (apply re; focus exact xx) | (apply rf; (focus exact xx); (focus exact xx); all_goals intro _; all_goals try first | contradiction | (exfalso; omega) | exact absurd trivial ‹_›) | (apply ra; (focus exact xx); (focus exact xx); intro _) | (apply r1; (focus exact xx); (focus exact xx); intro _) | (apply rl; (focus exact xx); (focus exact xx); intro _) | (apply rb; (focus exact xx); (focus exact xx); intro _) | (apply rt; (focus exact xx); (focus exact xx)) | (apply rsi; (focus exact xx); (focus exact xx)) | (apply rsz; (focus exact xx); (focus exact xx)) | (apply rso; (focus exact xx); (focus exact xx)) | (apply rmm; (focus exact xx); intro _) | (apply ru; (focus exact xx); (focus exact xx)) | (apply rm; (focus exact xx); (focus exact xx); intro _) | (apply rk; (focus exact xx); (focus exact xx); intro _) | (apply rc; (focus exact xx); (focus exact xx)) | (apply rk'; (focus exact xx); (focus exact xx))
  · exact fz (ff (ne_at ‹_›))
  · exact fr_next (by omega) sbc ⟨rfl, rfl, eq_step (by omega) (by omega) ha (by simpa using ‹¬ ¬ _›)⟩
  · exact fz (tt (eq_end (by omega) (by omega) ha))⟩
instance ref09_items (a b : List Item) : PCon T0 n.ref09_items [eItems a, eItems b] false (a.length ≤ 1048576) (.bool (decide (a = b))) := ⟨fun hb => by
  refine pc tabOk ?_
  repeat' first | refine wh_seq ?_ | refine wh_skip ?_ | refine wh_block ?_ | refine wh_end ?_ | refine wh_exit ?_ | refine wh_ret ?_ | refine bk_norm ?_ | refine bk_exit ?_ | refine bk_ret ?_ | refine fr_exit ?_ | refine fr_ret ?_ | refine lp_exit ?_ | refine lp_ret ?_ | refine bk_other rfl ?_ | (apply wr; focus exact xx) | (apply wi; (focus exact xx); (focus exact xx); all_goals intro _; all_goals try first | contradiction | (exfalso; omega) | exact absurd trivial ‹_›) | refine wh_reg ?_ | refine wh_raw ?_ | (apply dr_fin; (focus exact xx)) | (apply dr_v; (focus exact xd)) | (apply dr_r; (focus exact xd)) | (apply dr_l; (focus exact RF.mk rfl); (focus exact RF.mk rfl); (focus exact RF.mk rfl); (focus exact RF.mk rfl); (focus exact RF.mk rfl)) | (apply dr_e; (focus exact RF.mk rfl); (focus exact RF.mk rfl); (focus exact RF.mk rfl); (focus exact RF.mk rfl)) | (apply rd_e; (focus exact xx); (focus exact xd)) | (apply rd_l; (focus exact xx)) | refine wh_ife ?_ | (apply re; focus exact xx) | (apply rf; (focus exact xx); (focus exact xx); all_goals intro _; all_goals try first | contradiction | (exfalso; omega) | exact absurd trivial ‹_›) | (apply ra; (focus exact xx); (focus exact xx); intro _) | (apply r1; (focus exact xx); (focus exact xx); intro _) | (apply rl; (focus exact xx); (focus exact xx); intro _) | (apply rb; (focus exact xx); (focus exact xx); intro _) | (apply rt; (focus exact xx); (focus exact xx)) | (apply rsi; (focus exact xx); (focus exact xx)) | (apply rsz; (focus exact xx); (focus exact xx)) | (apply rso; (focus exact xx); (focus exact xx)) | (apply rmm; (focus exact xx); intro _) | (apply ru; (focus exact xx); (focus exact xx)) | (apply rm; (focus exact xx); (focus exact xx); intro _) | (apply rk; (focus exact xx); (focus exact xx); intro _) | (apply rc; (focus exact xx); (focus exact xx)) | (apply rk'; (focus exact xx); (focus exact xx))
  · exact fz (ff (ne_len (by omega)))
  refine wh_count a.length (fun i A L => A = [(0, eItems a), (1, eItems b), (5, .int .i64 (i : Nat))] ∧ L = [] ∧ a.take i = b.take i) ⟨rfl, rfl, rfl⟩ ?_
  rintro i A L hi ⟨rfl, rfl, ha⟩
  repeat' first | refine wh_seq ?_ | refine wh_skip ?_ | refine wh_block ?_ | refine wh_end ?_ | refine wh_exit ?_ | refine wh_ret ?_ | refine bk_norm ?_ | refine bk_exit ?_ | refine bk_ret ?_ | refine fr_exit ?_ | refine fr_ret ?_ | refine lp_exit ?_ | refine lp_ret ?_ | refine bk_other rfl ?_ | (apply wr; focus exact xx) | (apply wi; (focus exact xx); (focus exact xx); all_goals intro _; all_goals try first | contradiction | (exfalso; omega) | exact absurd trivial ‹_›) | refine wh_reg ?_ | refine wh_raw ?_ | (apply dr_fin; (focus exact xx)) | (apply dr_v; (focus exact xd)) | (apply dr_r; (focus exact xd)) | (apply dr_l; (focus exact RF.mk rfl); (focus exact RF.mk rfl); (focus exact RF.mk rfl); (focus exact RF.mk rfl); (focus exact RF.mk rfl)) | (apply dr_e; (focus exact RF.mk rfl); (focus exact RF.mk rfl); (focus exact RF.mk rfl); (focus exact RF.mk rfl)) | (apply rd_e; (focus exact xx); (focus exact xd)) | (apply rd_l; (focus exact xx)) | refine wh_ife ?_ | (apply re; focus exact xx) | (apply rf; (focus exact xx); (focus exact xx); all_goals intro _; all_goals try first | contradiction | (exfalso; omega) | exact absurd trivial ‹_›) | (apply ra; (focus exact xx); (focus exact xx); intro _) | (apply r1; (focus exact xx); (focus exact xx); intro _) | (apply rl; (focus exact xx); (focus exact xx); intro _) | (apply rb; (focus exact xx); (focus exact xx); intro _) | (apply rt; (focus exact xx); (focus exact xx)) | (apply rsi; (focus exact xx); (focus exact xx)) | (apply rsz; (focus exact xx); (focus exact xx)) | (apply rso; (focus exact xx); (focus exact xx)) | (apply rmm; (focus exact xx); intro _) | (apply ru; (focus exact xx); (focus exact xx)) | (apply rm; (focus exact xx); (focus exact xx); intro _) | (apply rk; (focus exact xx); (focus exact xx); intro _) | (apply rc; (focus exact xx); (focus exact xx)) | (apply rk'; (focus exact xx); (focus exact xx))
  · rename_i h; rw [eItem_inj] at h; exact fz (ff (ne_at h))
  · rename_i h; rw [eItem_inj, Decidable.not_not] at h; exact fr_next (by omega) sbc ⟨rfl, rfl, eq_step (by omega) (by omega) ha h⟩
  · exact fz (tt (eq_end (by omega) (by omega) ha))⟩
instance equal_s (a b : List (List UInt8)) : PCon T0 n.slices_Equal___string_string [eStrs a, eStrs b] false (a.length ≤ 1048576) (.bool (decide (a = b))) := ⟨fun hb => by
  refine pc tabOk ?_
  repeat' first | refine wh_seq ?_ | refine wh_skip ?_ | refine wh_block ?_ | refine wh_end ?_ | refine wh_exit ?_ | refine wh_ret ?_ | refine bk_norm ?_ | refine bk_exit ?_ | refine bk_ret ?_ | refine fr_exit ?_ | refine fr_ret ?_ | refine lp_exit ?_ | refine lp_ret ?_ | refine bk_other rfl ?_ | (apply wr; focus exact xx) | (apply wi; (focus exact xx); (focus exact xx); all_goals intro _; all_goals try first | contradiction | (exfalso; omega) | exact absurd trivial ‹_›) | refine wh_reg ?_ | refine wh_raw ?_ | (apply dr_fin; (focus exact xx)) | (apply dr_v; (focus exact xd)) | (apply dr_r; (focus exact xd)) | (apply dr_l; (focus exact RF.mk rfl); (focus exact RF.mk rfl); (focus exact RF.mk rfl); (focus exact RF.mk rfl); (focus exact RF.mk rfl)) | (apply dr_e; (focus exact RF.mk rfl); (focus exact RF.mk rfl); (focus exact RF.mk rfl); (focus exact RF.mk rfl)) | (apply rd_e; (focus exact xx); (focus exact xd)) | (apply rd_l; (focus exact xx)) | refine wh_ife ?_ | (apply re; focus exact xx) | (apply rf; (focus exact xx); (focus exact xx); all_goals intro _; all_goals try first | contradiction | (exfalso; omega) | exact absurd trivial ‹_›) | (apply ra; (focus exact xx); (focus exact xx); intro _) | (apply r1; (focus exact xx); (focus exact xx); intro _) | (apply rl; (focus exact xx); (focus exact xx); intro _) | (apply rb; (focus exact xx); (focus exact xx); intro _) | (apply rt; (focus exact xx); (focus exact xx)) | (apply rsi; (focus exact xx); (focus exact xx)) | (apply rsz; (focus exact xx); (focus exact xx)) | (apply rso; (focus exact xx); (focus exact xx)) | (apply rmm; (focus exact xx); intro _) | (apply ru; (focus exact xx); (focus exact xx)) | (apply rm; (focus exact xx); (focus exact xx); intro _) | (apply rk; (focus exact xx); (focus exact xx); intro _) | (apply rc; (focus exact xx); (focus exact xx)) | (apply rk'; (focus exact xx); (focus exact xx))
  · exact fz (ff (ne_len (by omega)))
  refine wh_count a.length (fun i A L => A = [(0, eStrs a), (1, eStrs b), (12, .int .i64 (a.length : Nat)), (13, .int .i64 (i : Nat))] ∧ L = [] ∧ a.take i = b.take i) ⟨rfl, rfl, rfl⟩ ?_
  rintro i A L hi ⟨rfl, rfl, ha⟩
  repeat' first | refine wh_seq ?_ | refine wh_skip ?_ | refine wh_block ?_ | refine wh_end ?_ | refine wh_exit ?_ | refine wh_ret ?_ | refine bk_norm ?_ | refine bk_exit ?_ | refine bk_ret ?_ | refine fr_exit ?_ | refine fr_ret ?_ | refine lp_exit ?_ | refine lp_ret ?_ | refine bk_other rfl ?_ | (apply wr; focus exact xx) | (apply wi; (focus exact xx); (focus exact xx); all_goals intro _; all_goals try first | contradiction | (exfalso; omega) | exact absurd trivial ‹_›) | refine wh_reg ?_ | refine wh_raw ?_ | (apply dr_fin; (focus exact xx)) | (apply dr_v; (focus exact xd)) | (apply dr_r; (focus exact xd)) | (apply dr_l; (focus exact RF.mk rfl); (focus exact RF.mk rfl); (focus exact RF.mk rfl); (focus exact RF.mk rfl); (focus exact RF.mk rfl)) | (apply dr_e; (focus exact RF.mk rfl); (focus exact RF.mk rfl); (focus exact RF.mk rfl); (focus exact RF.mk rfl)) | (apply rd_e; (focus exact xx); (focus exact xd)) | (apply rd_l; (focus exact xx)) | refine wh_ife ?_ | (apply re; focus exact xx) | (apply rf; (focus exact xx); (focus exact xx); all_goals intro _; all_goals try first | contradiction | (exfalso; omega) | exact absurd trivial ‹_›) | (apply ra; (focus exact xx); (focus exact xx); intro _) | (apply r1; (focus exact xx); (focus exact xx); intro _) | (apply rl; (focus exact xx); (focus exact xx); intro _) | (apply rb; (focus exact xx); (focus exact xx); intro _) | (apply rt; (focus exact xx); (focus exact xx)) | (apply rsi; (focus exact xx); (focus exact xx)) | (apply rsz; (focus exact xx); (focus exact xx)) | (apply rso; (focus exact xx); (focus exact xx)) | (apply rmm; (focus exact xx); intro _) | (apply ru; (focus exact xx); (focus exact xx)) | (apply rm; (focus exact xx); (focus exact xx); intro _) | (apply rk; (focus exact xx); (focus exact xx); intro _) | (apply rc; (focus exact xx); (focus exact xx)) | (apply rk'; (focus exact xx); (focus exact xx))
  · exact fz (ff (ne_at ‹_›))
  · exact fr_next (by omega) sbc ⟨rfl, rfl, eq_step (by omega) (by omega) ha (by simpa using ‹¬ ¬ _›)⟩
  · exact fz (tt (eq_end (by omega) (by omega) ha))⟩
instance equal_i (a b : List Int) : PCon T0 n.slices_Equal___int_int [eInts a, eInts b] false (a.length ≤ 1048576) (.bool (decide (a = b))) := ⟨fun hb => by
  refine pc tabOk ?_
  repeat' first | refine wh_seq ?_ | refine wh_skip ?_ | refine wh_block ?_ | refine wh_end ?_ | refine wh_exit ?_ | refine wh_ret ?_ | refine bk_norm ?_ | refine bk_exit ?_ | refine bk_ret ?_ | refine fr_exit ?_ | refine fr_ret ?_ | refine lp_exit ?_ | refine lp_ret ?_ | refine bk_other rfl ?_ | (apply wr; focus exact xx) | (apply wi; (focus exact xx); (focus exact xx); all_goals intro _; all_goals try first | contradiction | (exfalso; omega) | exact absurd trivial ‹_›) | refine wh_reg ?_ | refine wh_raw ?_ | (apply dr_fin; (focus exact xx)) | (apply dr_v; (focus exact xd)) | (apply dr_r; (focus exact xd)) | (apply dr_l; (focus exact RF.mk rfl); (focus exact RF.mk rfl); (focus exact RF.mk rfl); (focus exact RF.mk rfl); (focus exact RF.mk rfl)) | (apply dr_e; (focus exact RF.mk rfl); (focus exact RF.mk rfl); (focus exact RF.mk rfl); (focus exact RF.mk rfl)) | (apply rd_e; (focus exact xx); (focus exact xd)) | (apply rd_l; (focus exact xx)) | refine wh_ife ?_ | (apply re; focus exact xx) | (apply rf; (focus exact xx); (focus exact xx); all_goals intro _; all_goals try first | contradiction | (exfalso; omega) | exact absurd trivial ‹_›) | (apply ra; (focus exact xx); (focus exact xx); intro _) | (apply r1; (focus exact xx); (focus exact xx); intro _) | (apply rl; (focus exact xx); (focus exact xx); intro _) | (apply rb; (focus exact xx); (focus exact xx); intro _) | (apply rt; (focus exact xx); (focus exact xx)) | (apply rsi; (focus exact xx); (focus exact xx)) | (apply rsz; (focus exact xx); (focus exact xx)) | (apply rso; (focus exact xx); (focus exact xx)) | (apply rmm; (focus exact xx); intro _) | (apply ru; (focus exact xx); (focus exact xx)) | (apply rm; (focus exact xx); (focus exact xx); intro _) | (apply rk; (focus exact xx); (focus exact xx); intro _) | (apply rc; (focus exact xx); (focus exact xx)) | (apply rk'; (focus exact xx); (focus exact xx))
  · exact fz (ff (ne_len (by omega)))
  refine wh_count a.length (fun i A L => A = [(0, eInts a), (1, eInts b), (12, .int .i64 (a.length : Nat)), (13, .int .i64 (i : Nat))] ∧ L = [] ∧ a.take i = b.take i) ⟨rfl, rfl, rfl⟩ ?_
  rintro i A L hi ⟨rfl, rfl, ha⟩
  repeat' first | refine wh_seq ?_ | refine wh_skip ?_ | refine wh_block ?_ | refine wh_end ?_ | refine wh_exit ?_ | refine wh_ret ?_ | refine bk_norm ?_ | refine bk_exit ?_ | refine bk_ret ?_ | refine fr_exit ?_ | refine fr_ret ?_ | refine lp_exit ?_ | refine lp_ret ?_ | refine bk_other rfl ?_ | (apply wr; focus exact xx) | (apply wi; (focus exact xx); (focus exact xx); all_goals intro _; all_goals try first | contradiction | (exfalso; omega) | exact absurd trivial ‹_›) | refine wh_reg ?_ | refine wh_raw ?_ | (apply dr_fin; (focus exact xx)) | (apply dr_v; (focus exact xd)) | (apply dr_r; (focus exact xd)) | (apply dr_l; (focus exact RF.mk rfl); (focus exact RF.mk rfl); (focus exact RF.mk rfl); (focus exact RF.mk rfl); (focus exact RF.mk rfl)) | (apply dr_e; (focus exact RF.mk rfl); (focus exact RF.mk rfl); (focus exact RF.mk rfl); (focus exact RF.mk rfl)) | (apply rd_e; (focus exact xx); (focus exact xd)) | (apply rd_l; (focus exact xx)) | refine wh_ife ?_ | (apply re; focus exact xx) | (apply rf; (focus exact xx); (focus exact xx); all_goals intro _; all_goals try first | contradiction | (exfalso; omega) | exact absurd trivial ‹_›) | (apply ra; (focus exact xx); (focus exact xx); intro _) | (apply r1; (focus exact xx); (focus exact xx); intro _) | (apply rl; (focus exact xx); (focus exact xx); intro _) | (apply rb; (focus exact xx); (focus exact xx); intro _) | (apply rt; (focus exact xx); (focus exact xx)) | (apply rsi; (focus exact xx); (focus exact xx)) | (apply rsz; (focus exact xx); (focus exact xx)) | (apply rso; (focus exact xx); (focus exact xx)) | (apply rmm; (focus exact xx); intro _) | (apply ru; (focus exact xx); (focus exact xx)) | (apply rm; (focus exact xx); (focus exact xx); intro _) | (apply rk; (focus exact xx); (focus exact xx); intro _) | (apply rc; (focus exact xx); (focus exact xx)) | (apply rk'; (focus exact xx); (focus exact xx))
  · exact fz (ff (ne_at ‹_›))
  · exact fr_next (by omega) sbc ⟨rfl, rfl, eq_step (by omega) (by omega) ha (by simpa using ‹¬ ¬ _›)⟩
  · exact fz (tt (eq_end (by omega) (by omega) ha))⟩
instance equal_t (a b : List Item) : PCon T0 n.slices_Equal___api_Item_api_Item [eItems a, eItems b] false (a.length ≤ 1048576) (.bool (decide (a = b))) := ⟨fun hb => by
  refine pc tabOk ?_
  repeat' first | refine wh_seq ?_ | refine wh_skip ?_ | refine wh_block ?_ | refine wh_end ?_ | refine wh_exit ?_ | refine wh_ret ?_ | refine bk_norm ?_ | refine bk_exit ?_ | refine bk_ret ?_ | refine fr_exit ?_ | refine fr_ret ?_ | refine lp_exit ?_ | refine lp_ret ?_ | refine bk_other rfl ?_ | (apply wr; focus exact xx) | (apply wi; (focus exact xx); (focus exact xx); all_goals intro _; all_goals try first | contradiction | (exfalso; omega) | exact absurd trivial ‹_›) | refine wh_reg ?_ | refine wh_raw ?_ | (apply dr_fin; (focus exact xx)) | (apply dr_v; (focus exact xd)) | (apply dr_r; (focus exact xd)) | (apply dr_l; (focus exact RF.mk rfl); (focus exact RF.mk rfl); (focus exact RF.mk rfl); (focus exact RF.mk rfl); (focus exact RF.mk rfl)) | (apply dr_e; (focus exact RF.mk rfl); (focus exact RF.mk rfl); (focus exact RF.mk rfl); (focus exact RF.mk rfl)) | (apply rd_e; (focus exact xx); (focus exact xd)) | (apply rd_l; (focus exact xx)) | refine wh_ife ?_ | (apply re; focus exact xx) | (apply rf; (focus exact xx); (focus exact xx); all_goals intro _; all_goals try first | contradiction | (exfalso; omega) | exact absurd trivial ‹_›) | (apply ra; (focus exact xx); (focus exact xx); intro _) | (apply r1; (focus exact xx); (focus exact xx); intro _) | (apply rl; (focus exact xx); (focus exact xx); intro _) | (apply rb; (focus exact xx); (focus exact xx); intro _) | (apply rt; (focus exact xx); (focus exact xx)) | (apply rsi; (focus exact xx); (focus exact xx)) | (apply rsz; (focus exact xx); (focus exact xx)) | (apply rso; (focus exact xx); (focus exact xx)) | (apply rmm; (focus exact xx); intro _) | (apply ru; (focus exact xx); (focus exact xx)) | (apply rm; (focus exact xx); (focus exact xx); intro _) | (apply rk; (focus exact xx); (focus exact xx); intro _) | (apply rc; (focus exact xx); (focus exact xx)) | (apply rk'; (focus exact xx); (focus exact xx))
  · exact fz (ff (ne_len (by omega)))
  refine wh_count a.length (fun i A L => A = [(0, eItems a), (1, eItems b), (12, .int .i64 (a.length : Nat)), (13, .int .i64 (i : Nat))] ∧ L = [] ∧ a.take i = b.take i) ⟨rfl, rfl, rfl⟩ ?_
  rintro i A L hi ⟨rfl, rfl, ha⟩
  repeat' first | refine wh_seq ?_ | refine wh_skip ?_ | refine wh_block ?_ | refine wh_end ?_ | refine wh_exit ?_ | refine wh_ret ?_ | refine bk_norm ?_ | refine bk_exit ?_ | refine bk_ret ?_ | refine fr_exit ?_ | refine fr_ret ?_ | refine lp_exit ?_ | refine lp_ret ?_ | refine bk_other rfl ?_ | (apply wr; focus exact xx) | (apply wi; (focus exact xx); (focus exact xx); all_goals intro _; all_goals try first | contradiction | (exfalso; omega) | exact absurd trivial ‹_›) | refine wh_reg ?_ | refine wh_raw ?_ | (apply dr_fin; (focus exact xx)) | (apply dr_v; (focus exact xd)) | (apply dr_r; (focus exact xd)) | (apply dr_l; (focus exact RF.mk rfl); (focus exact RF.mk rfl); (focus exact RF.mk rfl); (focus exact RF.mk rfl); (focus exact RF.mk rfl)) | (apply dr_e; (focus exact RF.mk rfl); (focus exact RF.mk rfl); (focus exact RF.mk rfl); (focus exact RF.mk rfl)) | (apply rd_e; (focus exact xx); (focus exact xd)) | (apply rd_l; (focus exact xx)) | refine wh_ife ?_ | (apply re; focus exact xx) | (apply rf; (focus exact xx); (focus exact xx); all_goals intro _; all_goals try first | contradiction | (exfalso; omega) | exact absurd trivial ‹_›) | (apply ra; (focus exact xx); (focus exact xx); intro _) | (apply r1; (focus exact xx); (focus exact xx); intro _) | (apply rl; (focus exact xx); (focus exact xx); intro _) | (apply rb; (focus exact xx); (focus exact xx); intro _) | (apply rt; (focus exact xx); (focus exact xx)) | (apply rsi; (focus exact xx); (focus exact xx)) | (apply rsz; (focus exact xx); (focus exact xx)) | (apply rso; (focus exact xx); (focus exact xx)) | (apply rmm; (focus exact xx); intro _) | (apply ru; (focus exact xx); (focus exact xx)) | (apply rm; (focus exact xx); (focus exact xx); intro _) | (apply rk; (focus exact xx); (focus exact xx); intro _) | (apply rc; (focus exact xx); (focus exact xx)) | (apply rk'; (focus exact xx); (focus exact xx))
  · rename_i h; rw [eItem_inj] at h; exact fz (ff (ne_at h))
  · rename_i h; rw [eItem_inj, Decidable.not_not] at h; exact fr_next (by omega) sbc ⟨rfl, rfl, eq_step (by omega) (by omega) ha h⟩
  · exact fz (tt (eq_end (by omega) (by omega) ha))⟩
def fle (f : Facts) : Prop := f.vars.length ≤ 1048576 ∧ f.items.length ≤ 1048576 ∧ f.from'.length ≤ 1048576
theorem facts_dec {a b : Facts} : (decide (a.vars = b.vars) && decide (a.items = b.items) && decide (a.from' = b.from')) = decide (a = b) := by
  rw [Bool.eq_iff_iff]; cases a; cases b; simp [and_assoc]
instance intern_Same (a b : Facts) : PCon T0 n.intern_Same [eFacts a, eFacts b] false (fle a) (.bool (decide (a = b))) := ⟨fun hb => by
  obtain ⟨h1, h2, h3⟩ := hb
  refine pc tabOk ?_
  repeat' first | refine wh_seq ?_ | refine wh_skip ?_ | refine wh_block ?_ | refine wh_end ?_ | refine wh_exit ?_ | refine wh_ret ?_ | refine bk_norm ?_ | refine bk_exit ?_ | refine bk_ret ?_ | refine fr_exit ?_ | refine fr_ret ?_ | refine lp_exit ?_ | refine lp_ret ?_ | refine bk_other rfl ?_ | (apply wr; focus exact xx) | (apply wi; (focus exact xx); (focus exact xx); all_goals intro _; all_goals try first | contradiction | (exfalso; omega) | exact absurd trivial ‹_›) | refine wh_reg ?_ | refine wh_raw ?_ | (apply dr_fin; (focus exact xx)) | (apply dr_v; (focus exact xd)) | (apply dr_r; (focus exact xd)) | (apply dr_l; (focus exact RF.mk rfl); (focus exact RF.mk rfl); (focus exact RF.mk rfl); (focus exact RF.mk rfl); (focus exact RF.mk rfl)) | (apply dr_e; (focus exact RF.mk rfl); (focus exact RF.mk rfl); (focus exact RF.mk rfl); (focus exact RF.mk rfl)) | (apply rd_e; (focus exact xx); (focus exact xd)) | (apply rd_l; (focus exact xx)) | refine wh_ife ?_ | (apply re; focus exact xx) | (apply rf; (focus exact xx); (focus exact xx); all_goals intro _; all_goals try first | contradiction | (exfalso; omega) | exact absurd trivial ‹_›) | (apply ra; (focus exact xx); (focus exact xx); intro _) | (apply r1; (focus exact xx); (focus exact xx); intro _) | (apply rl; (focus exact xx); (focus exact xx); intro _) | (apply rb; (focus exact xx); (focus exact xx); intro _) | (apply rt; (focus exact xx); (focus exact xx)) | (apply rsi; (focus exact xx); (focus exact xx)) | (apply rsz; (focus exact xx); (focus exact xx)) | (apply rso; (focus exact xx); (focus exact xx)) | (apply rmm; (focus exact xx); intro _) | (apply ru; (focus exact xx); (focus exact xx)) | (apply rm; (focus exact xx); (focus exact xx); intro _) | (apply rk; (focus exact xx); (focus exact xx); intro _) | (apply rc; (focus exact xx); (focus exact xx)) | (apply rk'; (focus exact xx); (focus exact xx))
  exact fz (by rw [← facts_dec])⟩
instance ref09_Same (a b : Facts) : PCon T0 n.ref09_Same [eFacts a, eFacts b] false (fle a) (.bool (decide (a = b))) := ⟨fun hb => by
  obtain ⟨h1, h2, h3⟩ := hb
  refine pc tabOk ?_
  repeat' first | refine wh_seq ?_ | refine wh_skip ?_ | refine wh_block ?_ | refine wh_end ?_ | refine wh_exit ?_ | refine wh_ret ?_ | refine bk_norm ?_ | refine bk_exit ?_ | refine bk_ret ?_ | refine fr_exit ?_ | refine fr_ret ?_ | refine lp_exit ?_ | refine lp_ret ?_ | refine bk_other rfl ?_ | (apply wr; focus exact xx) | (apply wi; (focus exact xx); (focus exact xx); all_goals intro _; all_goals try first | contradiction | (exfalso; omega) | exact absurd trivial ‹_›) | refine wh_reg ?_ | refine wh_raw ?_ | (apply dr_fin; (focus exact xx)) | (apply dr_v; (focus exact xd)) | (apply dr_r; (focus exact xd)) | (apply dr_l; (focus exact RF.mk rfl); (focus exact RF.mk rfl); (focus exact RF.mk rfl); (focus exact RF.mk rfl); (focus exact RF.mk rfl)) | (apply dr_e; (focus exact RF.mk rfl); (focus exact RF.mk rfl); (focus exact RF.mk rfl); (focus exact RF.mk rfl)) | (apply rd_e; (focus exact xx); (focus exact xd)) | (apply rd_l; (focus exact xx)) | refine wh_ife ?_ | (apply re; focus exact xx) | (apply rf; (focus exact xx); (focus exact xx); all_goals intro _; all_goals try first | contradiction | (exfalso; omega) | exact absurd trivial ‹_›) | (apply ra; (focus exact xx); (focus exact xx); intro _) | (apply r1; (focus exact xx); (focus exact xx); intro _) | (apply rl; (focus exact xx); (focus exact xx); intro _) | (apply rb; (focus exact xx); (focus exact xx); intro _) | (apply rt; (focus exact xx); (focus exact xx)) | (apply rsi; (focus exact xx); (focus exact xx)) | (apply rsz; (focus exact xx); (focus exact xx)) | (apply rso; (focus exact xx); (focus exact xx)) | (apply rmm; (focus exact xx); intro _) | (apply ru; (focus exact xx); (focus exact xx)) | (apply rm; (focus exact xx); (focus exact xx); intro _) | (apply rk; (focus exact xx); (focus exact xx); intro _) | (apply rc; (focus exact xx); (focus exact xx)) | (apply rk'; (focus exact xx); (focus exact xx))
  exact fz (by rw [← facts_dec])⟩
instance ref06_Same (a b : List (List Op)) : PCon T0 n.ref06_Same [eH a, eH b] false (hb a) (.bool (decide (a = b))) := ⟨fun ⟨h1, h2⟩ => by
  refine pc tabOk ?_
  repeat' first | refine wh_seq ?_ | refine wh_skip ?_ | refine wh_block ?_ | refine wh_end ?_ | refine wh_exit ?_ | refine wh_ret ?_ | refine bk_norm ?_ | refine bk_exit ?_ | refine bk_ret ?_ | refine fr_exit ?_ | refine fr_ret ?_ | refine lp_exit ?_ | refine lp_ret ?_ | refine bk_other rfl ?_ | (apply wr; focus exact xx) | (apply wi; (focus exact xx); (focus exact xx); all_goals intro _; all_goals try first | contradiction | (exfalso; omega) | exact absurd trivial ‹_›) | refine wh_reg ?_ | refine wh_raw ?_ | (apply dr_fin; (focus exact xx)) | (apply dr_v; (focus exact xd)) | (apply dr_r; (focus exact xd)) | (apply dr_l; (focus exact RF.mk rfl); (focus exact RF.mk rfl); (focus exact RF.mk rfl); (focus exact RF.mk rfl); (focus exact RF.mk rfl)) | (apply dr_e; (focus exact RF.mk rfl); (focus exact RF.mk rfl); (focus exact RF.mk rfl); (focus exact RF.mk rfl)) | (apply rd_e; (focus exact xx); (focus exact xd)) | (apply rd_l; (focus exact xx)) | refine wh_ife ?_ | (apply re; focus exact xx) | (apply rf; (focus exact xx); (focus exact xx); all_goals intro _; all_goals try first | contradiction | (exfalso; omega) | exact absurd trivial ‹_›) | (apply ra; (focus exact xx); (focus exact xx); intro _) | (apply r1; (focus exact xx); (focus exact xx); intro _) | (apply rl; (focus exact xx); (focus exact xx); intro _) | (apply rb; (focus exact xx); (focus exact xx); intro _) | (apply rt; (focus exact xx); (focus exact xx)) | (apply rsi; (focus exact xx); (focus exact xx)) | (apply rsz; (focus exact xx); (focus exact xx)) | (apply rso; (focus exact xx); (focus exact xx)) | (apply rmm; (focus exact xx); intro _) | (apply ru; (focus exact xx); (focus exact xx)) | (apply rm; (focus exact xx); (focus exact xx); intro _) | (apply rk; (focus exact xx); (focus exact xx); intro _) | (apply rc; (focus exact xx); (focus exact xx)) | (apply rk'; (focus exact xx); (focus exact xx))
  · exact fz (ff (ne_len (by omega)))
  refine wh_count a.length (fun i A L => A = [(0, eH a), (1, eH b), (5, .int .i64 (i : Nat))] ∧ L = [] ∧ a.take i = b.take i) ⟨rfl, rfl, rfl⟩ ?_
  rintro i A L hi ⟨rfl, rfl, ha⟩
  have hl := @flat_len _ a i
  repeat' first | refine wh_seq ?_ | refine wh_skip ?_ | refine wh_block ?_ | refine wh_end ?_ | refine wh_exit ?_ | refine wh_ret ?_ | refine bk_norm ?_ | refine bk_exit ?_ | refine bk_ret ?_ | refine fr_exit ?_ | refine fr_ret ?_ | refine lp_exit ?_ | refine lp_ret ?_ | refine bk_other rfl ?_ | (apply wr; focus exact xx) | (apply wi; (focus exact xx); (focus exact xx); all_goals intro _; all_goals try first | contradiction | (exfalso; omega) | exact absurd trivial ‹_›) | refine wh_reg ?_ | refine wh_raw ?_ | (apply dr_fin; (focus exact xx)) | (apply dr_v; (focus exact xd)) | (apply dr_r; (focus exact xd)) | (apply dr_l; (focus exact RF.mk rfl); (focus exact RF.mk rfl); (focus exact RF.mk rfl); (focus exact RF.mk rfl); (focus exact RF.mk rfl)) | (apply dr_e; (focus exact RF.mk rfl); (focus exact RF.mk rfl); (focus exact RF.mk rfl); (focus exact RF.mk rfl)) | (apply rd_e; (focus exact xx); (focus exact xd)) | (apply rd_l; (focus exact xx)) | refine wh_ife ?_ | (apply re; focus exact xx) | (apply rf; (focus exact xx); (focus exact xx); all_goals intro _; all_goals try first | contradiction | (exfalso; omega) | exact absurd trivial ‹_›) | (apply ra; (focus exact xx); (focus exact xx); intro _) | (apply r1; (focus exact xx); (focus exact xx); intro _) | (apply rl; (focus exact xx); (focus exact xx); intro _) | (apply rb; (focus exact xx); (focus exact xx); intro _) | (apply rt; (focus exact xx); (focus exact xx)) | (apply rsi; (focus exact xx); (focus exact xx)) | (apply rsz; (focus exact xx); (focus exact xx)) | (apply rso; (focus exact xx); (focus exact xx)) | (apply rmm; (focus exact xx); intro _) | (apply ru; (focus exact xx); (focus exact xx)) | (apply rm; (focus exact xx); (focus exact xx); intro _) | (apply rk; (focus exact xx); (focus exact xx); intro _) | (apply rc; (focus exact xx); (focus exact xx)) | (apply rk'; (focus exact xx); (focus exact xx))
  · exact fz (ff (ne_at (i := i) (ne_len (by omega))))
  · refine wh_count (nth a i).length (fun k A L => A = [(0, eH a), (1, eH b), (5, .int .i64 (i : Nat)), (6, .int .i64 (k : Nat))] ∧ L = [] ∧ (nth a i).take k = (nth b i).take k) ⟨rfl, rfl, rfl⟩ ?_
    rintro k A L hk ⟨rfl, rfl, hb⟩
    repeat' first | refine wh_seq ?_ | refine wh_skip ?_ | refine wh_block ?_ | refine wh_end ?_ | refine wh_exit ?_ | refine wh_ret ?_ | refine bk_norm ?_ | refine bk_exit ?_ | refine bk_ret ?_ | refine fr_exit ?_ | refine fr_ret ?_ | refine lp_exit ?_ | refine lp_ret ?_ | refine bk_other rfl ?_ | (apply wr; focus exact xx) | (apply wi; (focus exact xx); (focus exact xx); all_goals intro _; all_goals try first | contradiction | (exfalso; omega) | exact absurd trivial ‹_›) | refine wh_reg ?_ | refine wh_raw ?_ | (apply dr_fin; (focus exact xx)) | (apply dr_v; (focus exact xd)) | (apply dr_r; (focus exact xd)) | (apply dr_l; (focus exact RF.mk rfl); (focus exact RF.mk rfl); (focus exact RF.mk rfl); (focus exact RF.mk rfl); (focus exact RF.mk rfl)) | (apply dr_e; (focus exact RF.mk rfl); (focus exact RF.mk rfl); (focus exact RF.mk rfl); (focus exact RF.mk rfl)) | (apply rd_e; (focus exact xx); (focus exact xd)) | (apply rd_l; (focus exact xx)) | refine wh_ife ?_ | (apply re; focus exact xx) | (apply rf; (focus exact xx); (focus exact xx); all_goals intro _; all_goals try first | contradiction | (exfalso; omega) | exact absurd trivial ‹_›) | (apply ra; (focus exact xx); (focus exact xx); intro _) | (apply r1; (focus exact xx); (focus exact xx); intro _) | (apply rl; (focus exact xx); (focus exact xx); intro _) | (apply rb; (focus exact xx); (focus exact xx); intro _) | (apply rt; (focus exact xx); (focus exact xx)) | (apply rsi; (focus exact xx); (focus exact xx)) | (apply rsz; (focus exact xx); (focus exact xx)) | (apply rso; (focus exact xx); (focus exact xx)) | (apply rmm; (focus exact xx); intro _) | (apply ru; (focus exact xx); (focus exact xx)) | (apply rm; (focus exact xx); (focus exact xx); intro _) | (apply rk; (focus exact xx); (focus exact xx); intro _) | (apply rc; (focus exact xx); (focus exact xx)) | (apply rk'; (focus exact xx); (focus exact xx))
    · rename_i h; rw [eOp_inj] at h; exact fz (ff (ne_at (i := i) (ne_at h)))
    · rename_i h; rw [eOp_inj, Decidable.not_not] at h; exact fr_next (by omega) sbc ⟨rfl, rfl, eq_step (by omega) (by omega) hb h⟩
    · exact fr_next (by omega) sbc ⟨rfl, rfl, eq_step (by omega) (by omega) ha (eq_end (by omega) (by omega) hb)⟩
  · exact fz (tt (eq_end (by omega) (by omega) ha))⟩
def findI (l : List (List UInt8)) (s : List UInt8) : Int := if s ∈ l then (l.idxOf s : Nat) else -1
theorem idxOf_at {l : List (List UInt8)} {i : Nat} {s : List UInt8} (hi : i < l.length) (h : s ∉ l.take i) (he : nth l i = s) : l.idxOf s = i := by
  conv => lhs; rw [← List.take_append_drop i l]
  rw [List.idxOf_append, if_neg h, drop_nth hi, he, List.idxOf_cons_self]
  simp; omega
instance ref09_find (l : List (List UInt8)) (s : List UInt8) : PCon T0 n.ref09_find [eStrs l, .str s] false (l.length ≤ 1048576) (.int .i64 (findI l s)) := ⟨fun hb => by
  refine pc tabOk ?_
  repeat' first | refine wh_seq ?_ | refine wh_skip ?_ | refine wh_block ?_ | refine wh_end ?_ | refine wh_exit ?_ | refine wh_ret ?_ | refine bk_norm ?_ | refine bk_exit ?_ | refine bk_ret ?_ | refine fr_exit ?_ | refine fr_ret ?_ | refine lp_exit ?_ | refine lp_ret ?_ | refine bk_other rfl ?_ | (apply wr; focus exact xx) | (apply wi; (focus exact xx); (focus exact xx); all_goals intro _; all_goals try first | contradiction | (exfalso; omega) | exact absurd trivial ‹_›) | refine wh_reg ?_ | refine wh_raw ?_ | (apply dr_fin; (focus exact xx)) | (apply dr_v; (focus exact xd)) | (apply dr_r; (focus exact xd)) | (apply dr_l; (focus exact RF.mk rfl); (focus exact RF.mk rfl); (focus exact RF.mk rfl); (focus exact RF.mk rfl); (focus exact RF.mk rfl)) | (apply dr_e; (focus exact RF.mk rfl); (focus exact RF.mk rfl); (focus exact RF.mk rfl); (focus exact RF.mk rfl)) | (apply rd_e; (focus exact xx); (focus exact xd)) | (apply rd_l; (focus exact xx)) | refine wh_ife ?_ | (apply re; focus exact xx) | (apply rf; (focus exact xx); (focus exact xx); all_goals intro _; all_goals try first | contradiction | (exfalso; omega) | exact absurd trivial ‹_›) | (apply ra; (focus exact xx); (focus exact xx); intro _) | (apply r1; (focus exact xx); (focus exact xx); intro _) | (apply rl; (focus exact xx); (focus exact xx); intro _) | (apply rb; (focus exact xx); (focus exact xx); intro _) | (apply rt; (focus exact xx); (focus exact xx)) | (apply rsi; (focus exact xx); (focus exact xx)) | (apply rsz; (focus exact xx); (focus exact xx)) | (apply rso; (focus exact xx); (focus exact xx)) | (apply rmm; (focus exact xx); intro _) | (apply ru; (focus exact xx); (focus exact xx)) | (apply rm; (focus exact xx); (focus exact xx); intro _) | (apply rk; (focus exact xx); (focus exact xx); intro _) | (apply rc; (focus exact xx); (focus exact xx)) | (apply rk'; (focus exact xx); (focus exact xx))
  refine wh_count l.length (fun i A L => A = [(0, eStrs l), (1, .str s), (5, .int .i64 (i : Nat))] ∧ L = [] ∧ s ∉ l.take i) ⟨rfl, rfl, by simp⟩ ?_
  rintro i A L hi ⟨rfl, rfl, ha⟩
  repeat' first | refine wh_seq ?_ | refine wh_skip ?_ | refine wh_block ?_ | refine wh_end ?_ | refine wh_exit ?_ | refine wh_ret ?_ | refine bk_norm ?_ | refine bk_exit ?_ | refine bk_ret ?_ | refine fr_exit ?_ | refine fr_ret ?_ | refine lp_exit ?_ | refine lp_ret ?_ | refine bk_other rfl ?_ | (apply wr; focus exact xx) | (apply wi; (focus exact xx); (focus exact xx); all_goals intro _; all_goals try first | contradiction | (exfalso; omega) | exact absurd trivial ‹_›) | refine wh_reg ?_ | refine wh_raw ?_ | (apply dr_fin; (focus exact xx)) | (apply dr_v; (focus exact xd)) | (apply dr_r; (focus exact xd)) | (apply dr_l; (focus exact RF.mk rfl); (focus exact RF.mk rfl); (focus exact RF.mk rfl); (focus exact RF.mk rfl); (focus exact RF.mk rfl)) | (apply dr_e; (focus exact RF.mk rfl); (focus exact RF.mk rfl); (focus exact RF.mk rfl); (focus exact RF.mk rfl)) | (apply rd_e; (focus exact xx); (focus exact xd)) | (apply rd_l; (focus exact xx)) | refine wh_ife ?_ | (apply re; focus exact xx) | (apply rf; (focus exact xx); (focus exact xx); all_goals intro _; all_goals try first | contradiction | (exfalso; omega) | exact absurd trivial ‹_›) | (apply ra; (focus exact xx); (focus exact xx); intro _) | (apply r1; (focus exact xx); (focus exact xx); intro _) | (apply rl; (focus exact xx); (focus exact xx); intro _) | (apply rb; (focus exact xx); (focus exact xx); intro _) | (apply rt; (focus exact xx); (focus exact xx)) | (apply rsi; (focus exact xx); (focus exact xx)) | (apply rsz; (focus exact xx); (focus exact xx)) | (apply rso; (focus exact xx); (focus exact xx)) | (apply rmm; (focus exact xx); intro _) | (apply ru; (focus exact xx); (focus exact xx)) | (apply rm; (focus exact xx); (focus exact xx); intro _) | (apply rk; (focus exact xx); (focus exact xx); intro _) | (apply rc; (focus exact xx); (focus exact xx)) | (apply rk'; (focus exact xx); (focus exact xx))
  · rename_i h1 h2
    refine fz ?_
    have h1 : i < l.length := by omega
    have hm : s ∈ l := by rw [← h2, nth_eq h1]; exact List.getElem_mem h1
    rw [findI, if_pos hm, idxOf_at (by omega) ha h2]
  · rename_i h1 h2
    refine fr_next (by omega) sbc ⟨rfl, rfl, ?_⟩
    rw [take_nth (by omega), List.mem_append, List.mem_singleton]
    rintro (h | h)
    · exact ha h
    · exact h2 h.symm
  · refine fz ?_
    rw [show i = l.length by omega, List.take_length] at ha
    rw [findI, if_neg ha]⟩
end Go.AM

