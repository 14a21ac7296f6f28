/- Part ZE of the proof. -/
import Derived.Test.YthhgiappgpeloaaDoorTA
import Derived.Test.YthhgiappgpeloaaDoorA3
import Derived.Test.YthhgiappgpeloaaDoorZA
set_option linter.unusedVariables false
set_option linter.unusedSimpArgs false
namespace Go.AM
/-! The builder in memory, and what its methods do. -/
def bv : Option Nat → List UInt8 → V
  | none, _ => .nil
  | some g, bs => .ref g 1 0 bs.length
def bh : Option Nat → List UInt8 → List HE
  | none, _ => []
  | some g, bs => [.ob g (.trow 5 false (bs.map eB'))]
def bl (id t : Nat) (p : V) (g : Option Nat) (bs : List UInt8) : List HE := .ob id (.trow t true [p, bv g bs]) :: bh g bs
structure OkBl (id t : Nat) (p : V) (g : Option Nat) (bs : List UInt8) : Prop where
  ty : t = 68 ∨ t = 70
  pt : p = .nilp ∨ p = .ptr id 2 0 0
  no : g = none → bs = []
  so : g ≠ none → 0 < bs.length
/-- A builder that holds bs, and nothing else. -/
def Bd (id t : Nat) (bs : List UInt8) (M : List HE) : Prop := ∃ p g, OkBl id t p g bs ∧ M = bl id t p g bs
theorem Bd.new {id t : Nat} (h : t = 68 ∨ t = 70) : Bd id t [] [.ob id (.trow t true [.nilp, .nil])] := ⟨.nilp, none, ⟨h, .inl rfl, fun _ => rfl, fun h => absurd rfl h⟩, rfl⟩
theorem HP.swap {H : Heap} {a b : List HE} (h : HP H (a ++ b)) : HP H (b ++ a) := h.perm List.perm_append_comm
theorem HP.in {H : Heap} {L : List HE} (h : HP H L) {id : Nat} {o : O} (hm : HE.ob id o ∈ L) : H[id]? = some o := h.all _ hm
theorem HP.lt {H : Heap} {L : List HE} (h : HP H L) {id : Nat} {o : O} (hm : HE.ob id o ∈ L) : id < H.length := (List.getElem?_eq_some_iff.1 (h.in hm)).1
theorem HP.put {H : Heap} {id : Nat} {o o' : O} {L : List HE} (h : HP H (.ob id o :: L)) : HP (H.set id o') (.ob id o' :: L) :=
  h.change .here (fun i hi _ => List.getElem?_set_ne (fun e => hi (by simp [HE.ids, e]))) (List.getElem?_set_self (h.lt List.mem_cons_self)) (fun j hj => .inl hj) (by simp [HE.ids])
theorem HP.away {H : Heap} {id : Nat} {o : O} {L : List HE} (h : HP H (.ob id o :: L)) : HP (H.set id .dead) L :=
  (h.change (H' := H.set id .dead) (e' := .own .nil 0 true []) .here (fun i hi _ => List.getElem?_set_ne (fun e => hi (by simp [HE.ids, e]))) (.inl ⟨rfl, rfl⟩) (fun j hj => by simp [HE.ids, Hd.ids] at hj) (by simp [HE.ids, Hd.ids])).sub (List.sublist_cons_self _ _)
theorem swap2 {a b : HE} {L : List HE} : (a :: b :: L).Perm (b :: a :: L) := List.Perm.swap b a L
theorem wr_hp {H : Heap} {id t : Nat} {p : V} {g : Option Nat} {bs s : List UInt8} {L : List HE} (hp : HP H (bl id t p g bs ++ L)) (ok : OkBl id t p g bs) (hb : bs.length + s.length ≤ 1099511627776) :
    ∃ H' g', gW id (s.map eB') H = some H' ∧ OkBl id t (.ptr id 2 0 0) g' (bs ++ s) ∧ HP H' (bl id t (.ptr id 2 0 0) g' (bs ++ s) ++ L) := by
  obtain ⟨h1, h2, h3, h4⟩ := ok
  have hi : H[id]? = some (.trow t true [p, bv g bs]) := hp.in (L := bl id t p g bs ++ L) List.mem_cons_self
  cases g with
  | none =>
    have hbs := h3 rfl
    subst hbs
    have hp' : HP H (.ob id (.trow t true [p, .nil]) :: L) := hp
    have hp1 : HP (H.set id (.trow t true [.ptr id 2 0 0, .nil])) (.ob id (.trow t true [.ptr id 2 0 0, .nil]) :: L) := hp'.put
    by_cases hs : s = []
    · subst hs
      refine ⟨_, none, ?_, ⟨h1, .inr rfl, fun _ => rfl, fun h => absurd rfl h⟩, hp1⟩
      unfold gW
      rw [hi]
      simp only [List.map_nil, if_true, bv]
      rw [if_pos ⟨h1, h2⟩]
    · refine ⟨((H.set id (.trow t true [.ptr id 2 0 0, .nil]) ++ [O.trow 5 false (s.map eB')]).set id (.trow t true [.ptr id 2 0 0, .ref H.length 1 0 (s.map eB').length])), some H.length, ?_, ⟨h1, .inr rfl, fun h => (by cases h), fun _ => (by rw [List.nil_append]; exact List.length_pos_iff.2 hs)⟩, ?_⟩
      · unfold gW
        rw [hi]
        simp only [bv]
        rw [if_pos ⟨h1, h2⟩, if_neg (by simpa using hs), if_pos (by rw [List.length_map]; simpa using hb)]
      · have hp2 := hp1.push (.trow 5 false (s.map eB'))
        rw [List.length_set] at hp2
        have hp3 := (hp2.perm swap2).put (o' := .trow t true [.ptr id 2 0 0, .ref H.length 1 0 (s.map eB').length])
        have e : (bl id t (.ptr id 2 0 0) (some H.length) ([] ++ s) ++ L) = .ob id (.trow t true [.ptr id 2 0 0, .ref H.length 1 0 (s.map eB').length]) :: .ob H.length (.trow 5 false (s.map eB')) :: L := by
          simp [bl, bv, bh]
        rw [e]
        exact hp3
  | some g =>
    have hbs := h4 (by simp)
    have hp' : HP H (.ob id (.trow t true [p, .ref g 1 0 bs.length]) :: .ob g (.trow 5 false (bs.map eB')) :: L) := hp
    have hg := hp'.in (id := g) (o := .trow 5 false (bs.map eB')) (by simp)
    have hne : g ≠ id := by
      have := hp'.nd
      simp only [List.flatMap_cons, HE.ids, List.singleton_append, List.nodup_cons, List.mem_cons, not_or] at this
      exact fun e => this.1.1 e.symm
    refine ⟨(((H.set id (.trow t true [.ptr id 2 0 0, .ref g 1 0 bs.length])).set g .dead ++ [O.trow 5 false (bs.map eB' ++ s.map eB')]).set id (.trow t true [.ptr id 2 0 0, .ref H.length 1 0 (bs.length + (s.map eB').length)])), some H.length, ?_, ⟨h1, .inr rfl, fun h => by (cases h), fun _ => by rw [List.length_append]; omega⟩, ?_⟩
    · unfold gW
      rw [hi]
      simp only [bv]
      rw [if_pos ⟨h1, h2⟩, hg]
      simp only
      rw [if_pos ⟨by rw [List.length_map], hbs, by rw [List.length_map]; exact hb, hne⟩]
    · have hp1 : HP (H.set id (.trow t true [.ptr id 2 0 0, .ref g 1 0 bs.length])) (.ob id (.trow t true [.ptr id 2 0 0, .ref g 1 0 bs.length]) :: .ob g (.trow 5 false (bs.map eB')) :: L) := hp'.put
      have hp2 := (hp1.perm swap2).away
      have hp3 := hp2.push (.trow 5 false (bs.map eB' ++ s.map eB'))
      rw [List.length_set, List.length_set] at hp3
      have hp4 := (hp3.perm swap2).put (o' := .trow t true [.ptr id 2 0 0, .ref H.length 1 0 (bs.length + (s.map eB').length)])
      have e : (bl id t (.ptr id 2 0 0) (some H.length) (bs ++ s) ++ L) = .ob id (.trow t true [.ptr id 2 0 0, .ref H.length 1 0 (bs.length + (s.map eB').length)]) :: .ob H.length (.trow 5 false (bs.map eB' ++ s.map eB')) :: L := by
        simp [bl, bv, bh]
      rw [e]
      exact hp4
theorem ws_ce (pre : List HE) {id t : Nat} {bs s : List UInt8} {M : List HE} (h : Bd id t bs M) (hb : bs.length + s.length ≤ 1099511627776) :
    CE T0 n.strings_Builder__WriteString [.ptr id 2 0 0, .str s] (pre ++ M) (fun u L' => u = .tup [.int .i64 (s.length : Nat), .undef] ∧ ∃ M', Bd id t (bs ++ s) M' ∧ L' = pre ++ M') := fun H hp => by
  obtain ⟨p, g, ok, rfl⟩ := h
  obtain ⟨H', g', h1, h2, h3⟩ := wr_hp hp.swap ok hb
  refine ⟨_, H', _, rowX (g := gWS) rfl ?_, h3.swap, rfl, _, ⟨_, _, h2, rfl⟩, rfl⟩
  simp only [gWS, h1, Option.map_some]
theorem wb_ce (pre : List HE) {id t : Nat} {bs : List UInt8} {c : UInt8} {M : List HE} (h : Bd id t bs M) (hb : bs.length + 1 ≤ 1099511627776) :
    CE T0 n.strings_Builder__WriteByte [.ptr id 2 0 0, .int .u8 (c.toNat : Nat)] (pre ++ M) (fun u L' => u = .undef ∧ ∃ M', Bd id t (bs ++ [c]) M' ∧ L' = pre ++ M') := fun H hp => by
  obtain ⟨p, g, ok, rfl⟩ := h
  obtain ⟨H', g', h1, h2, h3⟩ := wr_hp (s := [c]) hp.swap ok hb
  refine ⟨_, H', _, rowX (g := gWB) rfl ?_, h3.swap, rfl, _, ⟨_, _, h2, rfl⟩, rfl⟩
  simp only [gWB]
  rw [show ([V.int .u8 (c.toNat : Nat)] : List V) = [c].map eB' from rfl, h1]
  rfl
theorem unB_e (c : UInt8) : unB (eB' c) = some c := by
  have h := c.toNat_lt
  simp only [unB, eB']
  rw [if_pos ⟨by omega, by omega⟩]
  simp
theorem unBs_e (l : List UInt8) : (l.map eB').mapM unB = some l := by
  induction l with
  | nil => rfl
  | cons c r ih => simp [unB_e, ih]
/-- String: the builder's end. -/
theorem st_ce (pre : List HE) {id t : Nat} {bs : List UInt8} {M : List HE} (h : Bd id t bs M) (hb : bs.length ≤ 1099511627776) :
    CE T0 n.strings_Builder__String [.ptr id 2 0 0] (pre ++ M) (fun u L' => u = .str bs ∧ L' = pre) := fun H hp => by
  obtain ⟨p, g, ⟨h1, h2, h3, h4⟩, rfl⟩ := h
  have hi : H[id]? = some (.trow t true [p, bv g bs]) := hp.swap.in (L := bl id t p g bs ++ pre) List.mem_cons_self
  cases g with
  | none =>
    have hbs := h3 rfl
    subst hbs
    refine ⟨_, H, _, rowX (g := gStr) rfl ?_, hp.sub (List.sublist_append_left _ _), rfl, rfl⟩
    simp only [gStr, hi, bv]
    rw [if_pos h2]
  | some g =>
    have hbs := h4 (by simp)
    have hp' : HP H (.ob id (.trow t true [p, .ref g 1 0 bs.length]) :: .ob g (.trow 5 false (bs.map eB')) :: pre) := hp.swap
    have hg := hp'.in (id := g) (o := .trow 5 false (bs.map eB')) (by simp)
    refine ⟨_, H.set g .dead, _, rowX (g := gStr) rfl ?_, (hp'.perm swap2).away.sub (List.sublist_cons_self _ _), rfl, rfl⟩
    simp only [gStr, hi, bv]
    rw [if_pos h2, hg]
    simp only
    rw [if_pos ⟨by rw [List.length_map], hbs, hb⟩, unBs_e]
    rfl
section
variable {T : Nat → Option Fn} {A A' : Sl} {L : List HE} {ds1 : List (Nat × E)} {kf : Mask} {d : Option Nat} {bs : List BS} {lv : Mask} {ds : List (Nat × E)} {z : List E} {K : List V → Sl → List HE → Prop}
theorem rmT {t : Nat} (hr : AR T A L ds1 kf A') (h : ∀ id, RS T false bs lv ds z (insD d (.ptr id 2 0 0) A') (.ob id (.trow t true [.nilp, .nil]) :: L) K) : RS T false (.eff ds1 kf d (.l (.allocT t)) [] :: bs) lv ds z A L K := by
  obtain ⟨ws, hd, hA⟩ := hr.get
  exact rs_eff hd ev_nil hA fun H hp => ⟨_, _, _, ⟨_, rfl, rfl⟩, hp.push _, h _⟩
theorem rmB {t : Nat} {e : E} (hr : AR T A L ds1 kf A') (he : Ev T A L e (.agg [.nilp, .nil])) (h : ∀ id, RS T false bs lv ds z (insD d (.ptr id 2 0 0) A') (.ob id (.trow t true [.nilp, .nil]) :: L) K) : RS T false (.eff ds1 kf d (.l (.boxT t (.t 0))) [e] :: bs) lv ds z A L K := by
  obtain ⟨ws, hd, hA⟩ := hr.get
  exact rs_eff hd (ev_cons he ev_nil) hA fun H hp => ⟨_, _, _, ⟨_, by simp only [stepL, evl, List.getD_cons_zero, if_true], rfl⟩, hp.push _, h _⟩
end
end Go.AM

set_option linter.unusedVariables false
set_option linter.unusedSimpArgs false
namespace Go.AM
open Go.Lib
attribute [-simp] List.length_flatten List.map_flatten List.map_take List.map_map List.flatten_append
theorem ce_pure {T : Nat → Option Fn} {f : Nat} {vs ds : List V} {fr : Bool} {P : Prop} {v : V} {L : List HE} (hc : PCon T f ds fr P v) (hP : P) (hd : Dps L 8 vs ds) (hf : fr = true → vs.all V.data = true) : CE T f vs L (fun u L' => u = v ∧ L' = L) := fun H hp =>
  ⟨v, H, L, hc.con hP vs H (hd H hp) hf, hp, rfl, rfl⟩
theorem strVs_e (l : List (List UInt8)) : (l.map V.str).mapM strV = some l := by
  induction l with
  | nil => rfl
  | cons c r ih => simp [strV, ih]
instance join_pc (l : List (List UInt8)) (sep : List UInt8) : PCon T0 n.strings_Join [.lst (l.map V.str), .str sep] false (l.length ≤ 1099511627776 ∧ (join l sep).length ≤ 1099511627776) (.str (join l sep)) := ⟨fun hb xs H hx _ => by
  refine rowX (g := gJoin) rfl ?_
  unfold gJoin gPr
  rw [hx]
  simp only [Option.bind_some, gJ0, strVs_e]
  rw [if_pos hb]
  rfl⟩
instance tell_Line (l : List (List UInt8)) : PCon T0 n.tell_Line [.lst (l.map V.str)] false (l.length ≤ 1099511627776 ∧ (join l [32]).length ≤ 1099511627776) (.str (join l [32] ++ [10])) := ⟨fun ⟨h1, h2⟩ => by
  refine pc tabOk ?_
  repeat' first | (apply s'2; (focus exact w'2); all_goals intro _; all_goals try first | contradiction | (exfalso; omega) | exact absurd trivial ‹_›) | (apply s'1; (focus exact w'1); intro _) | (apply s'0; focus exact w'0) | fail
  exact fz rfl⟩
section
variable {T : Nat → Option Fn} {A A' : Sl} {L : List HE} {ds1 : List (Nat × E)} {kf : Mask} {d : Option Nat} {bs : List BS} {lv : Mask} {ds : List (Nat × E)} {z : List E} {K : List V → Sl → List HE → Prop}
/-- A slice that is made with more room than it has elements. -/
theorem rkm {s by' : Nat} {fl : Bool} {zz : V} {a b : E} {k m : Nat} (hr : AR T A L ds1 kf A') (ha : Ev T A L a (.int .i64 (k : Nat))) (hb : Ev T A L b (.int .i64 (m : Nat))) (hy : okEl s fl zz = true) (hkm : k ≤ m) (hl : m * by' ≤ 1099511627776) (hl2 : m ≤ 1099511627776)
    (h : ∀ g : Hd, RS T false bs lv ds z (insD d g.v A') (.own g s fl (List.replicate k zz) :: L) K) : RS T false (.eff ds1 kf d (.l (.make s fl zz by' (.t 0) (.t 1))) [a, b] :: bs) lv ds z A L K := by
  obtain ⟨ws, hd, hA⟩ := hr.get
  refine rs_eff hd (ev_cons ha (ev_cons hb ev_nil)) hA fun H hp => ?_
  refine ⟨.ref H.length s 0 k, H ++ [.row s fl (List.replicate k zz)], _, ⟨_, ?_, rfl⟩, ?_, h (.ref H.length s k)⟩
  · simp only [stepL, evl, List.getD_cons_zero, List.getD_cons_succ]
    have e1 : ((m * by' : Nat) : Int) ≤ 1099511627776 := by omega
    rw [Int.natCast_mul] at e1
    rw [if_pos ⟨by omega, by omega, e1, hy, by omega⟩]; rfl
  · exact hp.more (fun i hi => get_app hi) (.inr ⟨H.length, by rw [List.length_replicate], by simp⟩) (by simp [HE.ids, Hd.ids]) own_nd
end
/-- A line of a name and numbers. -/
def numT (nm : List UInt8) (l : List Int) : List UInt8 := nm ++ l.flatMap (fun x => 32 :: itoa x) ++ [10]
theorem join_num (nm : List UInt8) (l : List Int) : join (nm :: l.map itoa) [32] ++ [10] = numT nm l := by
  rw [join_cons, numT, joinTail, List.map_map, List.flatMap_def]
  rfl
theorem fm_len {l : List Int} (h : ∀ x ∈ l, okN x) : (l.flatMap (fun x => 32 :: itoa x)).length ≤ 22 * l.length := by
  induction l with
  | nil => simp
  | cons a r ih =>
    have h1 := itoa_len (h a (by simp))
    have h2 := ih (fun x hx => h x (by simp [hx]))
    rw [List.flatMap_cons, List.length_append, List.length_cons, List.length_cons]
    omega
def okNm (nm : List UInt8) (l : List Int) : Prop := nm.length ≤ 1048576 ∧ l.length ≤ 1048576 ∧ ∀ x ∈ l, okN x
theorem numT_len {nm : List UInt8} {l : List Int} (h : okNm nm l) : (numT nm l).length ≤ nm.length + 22 * l.length + 1 := by
  have := fm_len h.2.2
  unfold numT
  rw [List.length_append, List.length_append]
  simp only [List.length_cons, List.length_nil]
  omega
set_option maxHeartbeats 2000000 in
instance tell_Numbers (nm : List UInt8) (l : List Int) : PCon T0 n.tell_Numbers [.str nm, .lst (l.map (V.int .i64))] false (okNm nm l) (.str (numT nm l)) := ⟨fun ok => by
  obtain ⟨h1, h2, h3⟩ := ok
  have hj := join_num nm l
  have hjl : (join (nm :: l.map itoa) [32]).length ≤ 1099511627776 := by
    have e1 := numT_len ⟨h1, h2, h3⟩
    rw [← hj, List.length_append] at e1
    omega
  refine pc tabOk ?_
  repeat' first | (apply s'2; (focus exact w'2); all_goals intro _; all_goals try first | contradiction | (exfalso; omega) | exact absurd trivial ‹_›) | (apply s'1; (focus exact w'1); intro _) | (apply s'0; focus exact w'0) | fail
  refine rkm (k := 0) (m := l.length + 1) (by exact xx) (by exact xx) (by exact xx) rfl (by omega) (by omega) (by omega) ?_
  intro g0
  repeat' first | (apply s'2; (focus exact w'2); all_goals intro _; all_goals try first | contradiction | (exfalso; omega) | exact absurd trivial ‹_›) | (apply s'1; (focus exact w'1); intro _) | (apply s'0; focus exact w'0) | fail
  refine wh_sub (L' := [_]) ?_ (List.sublist_cons_self _ _)
  refine wh_count l.length (fun i A L => ∃ g ys, ys = nm :: (l.take i).map itoa ∧ A = [(5, Hd.v g), (16, .lst (l.map (V.int .i64))), (17, .int .i64 (l.length : Nat)), (18, .int .i64 (i : Nat))] ∧ L = [.own g 1 true (ys.map V.str)]) ⟨_, _, rfl, rfl, rfl⟩ ?_
  rintro i A L hi ⟨g, ys, hys, rfl, rfl⟩
  have hyl : ys.length = i + 1 := by
    rw [hys, List.length_cons, List.length_map, List.length_take]; omega
  by_cases hlt : i < l.length
  · have hx : okN (nth l i) := h3 _ (by rw [nth_eq hlt]; exact List.getElem_mem hlt)
    have hput : PCon T0 n.num_Put [.int .i64 (nth l i)] true True (.str (itoa (nth l i))) := ⟨fun _ => (num_Put (nth l i)).con hx⟩
    generalize hz : itoa (nth l i) = y at hput
    repeat' first | (apply s'2; (focus exact w'2); all_goals intro _; all_goals try first | contradiction | (exfalso; omega) | exact absurd trivial ‹_›) | (apply s'1; (focus exact w'1); intro _) | (apply s'0; focus exact w'0) | fail
    refine fr_next (by omega) (List.sublist_cons_self _ _) ⟨_, ys ++ [y], ?_, rfl, ?_⟩
    · rw [take_nth hlt, hys, ← hz]
      simp
    · simp
  · have hline : PCon T0 n.tell_Line [.lst (ys.map V.str)] false True (.str (numT nm l)) := ⟨fun _ => by
      have e1 : ys = nm :: l.map itoa := by rw [hys, show i = l.length by omega, List.take_length]
      have := (tell_Line ys).con ⟨by omega, by rw [e1]; exact hjl⟩
      rwa [e1, hj, ← e1] at this⟩
    generalize numT nm l = y at hline ⊢
    repeat' first | (apply s'2; (focus exact w'2); all_goals intro _; all_goals try first | contradiction | (exfalso; omega) | exact absurd trivial ‹_›) | (apply s'1; (focus exact w'1); intro _) | (apply s'0; focus exact w'0) | fail
    exact fz rfl⟩
end Go.AM

set_option linter.unusedVariables false
set_option linter.unusedSimpArgs false
namespace Go.AM
open Go.Lib
attribute [-simp] List.length_flatten List.map_flatten List.map_take List.map_map List.flatten_append
/-- say: a line more. -/
theorem say_ce (pre : List HE) {id t : Nat} {bs : List UInt8} {M : List HE} {nm : List UInt8} {l : List Int} {av : V} (h : Bd id t bs M) (ok : okNm nm l) (hb : bs.length ≤ 1000000000) (hk : av.known = true) (hd : Dp (pre ++ M) 8 av (.lst (l.map (V.int .i64)))) :
    CE T0 n.tell_teller__say [.ptr id 2 0 0, .str nm, av] (pre ++ M) (fun u L' => ∃ M', Bd id t (bs ++ numT nm l) M' ∧ L' = pre ++ M') := by
  have hl := numT_len ok
  obtain ⟨o1, o2, o3⟩ := ok
  have h0 : List.Sublist (pre ++ M) (pre ++ M) := List.Sublist.refl _
  generalize hL : pre ++ M = L at hd ⊢
  refine rx tabOk ?_
  repeat' first | (apply s'2; (focus exact w'2); all_goals intro _; all_goals try first | contradiction | (exfalso; omega) | exact absurd trivial ‹_›) | (apply s'1; (focus exact w'1); intro _) | (apply s'0; focus exact w'0) | fail
  refine wh_raw ?_
  repeat' first | (apply s'2; (focus exact w'2); all_goals intro _; all_goals try first | contradiction | (exfalso; omega) | exact absurd trivial ‹_›) | (apply s'1; (focus exact w'1); intro _) | (apply s'0; focus exact w'0) | fail
  refine dr_v (DV.mk ⟨rfl⟩ ⟨rfl⟩ ⟨rfl⟩ ⟨rfl⟩ (q_s (by exact xx) ⟨hk⟩) (by first | exact InD.no | (apply InD.so; exact xx))) ?_
  repeat' first | (apply s'2; (focus exact w'2); all_goals intro _; all_goals try first | contradiction | (exfalso; omega) | exact absurd trivial ‹_›) | (apply s'1; (focus exact w'1); intro _) | (apply s'0; focus exact w'0) | fail
  refine rc (by exact xx) (AC.mk (ev_cons (by exact xx) (ev_cons (q_s (by exact xx) ⟨hk⟩) ev_nil)) (ce_pure (tell_Numbers nm l) ⟨o1, o2, o3⟩ (dps_cons (dp_d rfl) (dps_cons hd dps_nil)) (fun h => by cases h))) ?_
  rintro _ _ ⟨rfl, rfl⟩
  subst hL
  repeat' first | (apply s'2; (focus exact w'2); all_goals intro _; all_goals try first | contradiction | (exfalso; omega) | exact absurd trivial ‹_›) | (apply s'1; (focus exact w'1); intro _) | (apply s'0; focus exact w'0) | fail
  refine rc (by exact xx) (AC.mk (by exact xx) (ws_ce pre h (by omega))) ?_
  rintro _ _ ⟨rfl, M', hM', rfl⟩
  repeat' first | (apply s'2; (focus exact w'2); all_goals intro _; all_goals try first | contradiction | (exfalso; omega) | exact absurd trivial ‹_›) | (apply s'1; (focus exact w'1); intro _) | (apply s'0; focus exact w'0) | fail
  exact ⟨.inl rfl, [], by exact xx, M', hM', rfl⟩
structure Stp where
  (k a b c d : Int)
@[reducible] def eStp (x : Stp) : V := .agg [.int .i64 x.k, .int .i64 x.a, .int .i64 x.b, .int .i64 x.c, .int .i64 x.d]
instance : Inhabited Stp := ⟨⟨0, 0, 0, 0, 0⟩⟩
structure Wit where
  (k r w1 w2 o : Int) (st : List Stp) (f s : Int)
@[reducible] def eWit (w : Wit) : V := .agg [.int .i64 w.k, .int .i64 w.r, .int .i64 w.w1, .int .i64 w.w2, .int .i64 w.o, .lst (w.st.map eStp), .int .i64 w.f, .int .i64 w.s]
def okStp (x : Stp) : Prop := okN x.k ∧ okN x.a ∧ okN x.b ∧ okN x.c ∧ okN x.d
def okWit (w : Wit) : Prop := (okN w.k ∧ okN w.r ∧ okN w.w1 ∧ okN w.w2 ∧ okN w.o ∧ okN w.f ∧ okN w.s) ∧ w.st.length ≤ 1048576 ∧ ∀ x ∈ w.st, okStp x
def stL (x : Stp) : List Int := [x.k, x.a, x.b, x.c, x.d]
def stT (x : Stp) : List UInt8 := numT [115, 116, 101, 112] (stL x)
def patL (w : Wit) : List Int := [w.k, w.r, w.w1, w.w2, w.o, w.f, w.s]
def patT (w : Wit) : List UInt8 := numT [112, 97, 116, 116, 101, 114, 110] (patL w)
def witT (w : Wit) : List UInt8 := patT w ++ w.st.flatMap stT
theorem okNm_st {x : Stp} (h : okStp x) : okNm [115, 116, 101, 112] (stL x) := by
  refine ⟨by decide, by simp [stL], fun y hy => ?_⟩
  obtain ⟨h1, h2, h3, h4, h5⟩ := h
  simp only [stL, List.mem_cons, List.not_mem_nil, or_false] at hy
  rcases hy with rfl | rfl | rfl | rfl | rfl <;> assumption
theorem okNm_pat {w : Wit} (h : okWit w) : okNm [112, 97, 116, 116, 101, 114, 110] (patL w) := by
  refine ⟨by decide, by simp [patL], fun y hy => ?_⟩
  obtain ⟨⟨h1, h2, h3, h4, h5, h6, h7⟩, -⟩ := h
  simp only [patL, List.mem_cons, List.not_mem_nil, or_false] at hy
  rcases hy with rfl | rfl | rfl | rfl | rfl | rfl | rfl <;> assumption
theorem stT_len {x : Stp} (h : okStp x) : (stT x).length ≤ 115 := numT_len (okNm_st h)
theorem patT_len {w : Wit} (h : okWit w) : (patT w).length ≤ 162 := numT_len (okNm_pat h)
theorem sts_len : ∀ {l : List Stp}, (∀ x ∈ l, okStp x) → (l.flatMap stT).length ≤ 115 * l.length
  | [], _ => by simp
  | a :: r, h => by
    have h1 := stT_len (h a (by simp))
    have h2 := sts_len (l := r) (fun x hx => h x (by simp [hx]))
    rw [List.flatMap_cons, List.length_append, List.length_cons]
    omega
set_option maxHeartbeats 4000000 in
theorem wit_ce (pre : List HE) {id t : Nat} {bs : List UInt8} {M : List HE} {w : Wit} (h : Bd id t bs M) (ok : okWit w) (hb : bs.length ≤ 1000000) :
    CE T0 n.tell_teller__witness [.ptr id 2 0 0, eWit w] (pre ++ M) (fun u L' => ∃ M', Bd id t (bs ++ witT w) M' ∧ L' = pre ++ M') := by
  have hpl := patT_len ok
  have hs := ok.2.1
  refine rx tabOk ?_
  repeat' first | (apply s'2; (focus exact w'2); all_goals intro _; all_goals try first | contradiction | (exfalso; omega) | exact absurd trivial ‹_›) | (apply s'1; (focus exact w'1); intro _) | (apply s'0; focus exact w'0) | fail
  rename_i wid g
  refine rc (by exact xx) (AC.mk (by exact xx) (say_ce (.own g 1 true ((patL w).map (V.int .i64)) :: .ob wid (.row 8 false [eWit w]) :: pre) h (okNm_pat ok) (by omega) (Hd.known g) (dp_ownm List.mem_cons_self (fun _ => rfl)))) ?_
  rintro _ _ ⟨M1, hM1, rfl⟩
  repeat' first | (apply s'2; (focus exact w'2); all_goals intro _; all_goals try first | contradiction | (exfalso; omega) | exact absurd trivial ‹_›) | (apply s'1; (focus exact w'1); intro _) | (apply s'0; focus exact w'0) | fail
  refine wh_sub (L' := pre ++ M1) ?_ ((List.sublist_cons_self _ _).trans (List.sublist_cons_self _ _))
  refine wh_count w.st.length (fun i A L => A = [(0, .ptr id 2 0 0), (24, .lst (w.st.map eStp)), (25, .int .i64 (w.st.length : Nat)), (26, .int .i64 (i : Nat))] ∧ ∃ M, Bd id t ((bs ++ patT w) ++ (w.st.take i).flatMap stT) M ∧ L = pre ++ M) ⟨rfl, M1, by rw [List.take_zero, List.flatMap_nil, List.append_nil]; exact hM1, rfl⟩ ?_
  rintro i A L hi ⟨rfl, M2, hM2, rfl⟩
  by_cases hlt : i < w.st.length
  · have hx : okStp (nth w.st i) := ok.2.2 _ (by rw [nth_eq hlt]; exact List.getElem_mem hlt)
    have hsl := sts_len (l := w.st.take i) (fun x hx => ok.2.2 x (List.take_subset _ _ hx))
    rw [List.length_take, Nat.min_eq_left hi] at hsl
    have hbl : ((bs ++ patT w) ++ (w.st.take i).flatMap stT).length ≤ 1000000000 := by
      rw [List.length_append, List.length_append]; omega
    repeat' first | (apply s'2; (focus exact w'2); all_goals intro _; all_goals try first | contradiction | (exfalso; omega) | exact absurd trivial ‹_›) | (apply s'1; (focus exact w'1); intro _) | (apply s'0; focus exact w'0) | fail
    rename_i sid g2
    refine rc (by exact xx) (AC.mk (by exact xx) (say_ce (.own g2 1 true ((stL (nth w.st i)).map (V.int .i64)) :: .ob sid (.row 5 true [eStp (nth w.st i)]) :: pre) hM2 (okNm_st hx) hbl (Hd.known g2) (dp_ownm List.mem_cons_self (fun _ => rfl)))) ?_
    rintro _ _ ⟨M3, hM3, rfl⟩
    repeat' first | (apply s'2; (focus exact w'2); all_goals intro _; all_goals try first | contradiction | (exfalso; omega) | exact absurd trivial ‹_›) | (apply s'1; (focus exact w'1); intro _) | (apply s'0; focus exact w'0) | fail
    refine fr_next (by omega) ((List.sublist_cons_self _ _).trans (List.sublist_cons_self _ _)) ⟨rfl, M3, ?_, rfl⟩
    rw [take_nth hlt, List.flatMap_append, ← List.append_assoc]
    simpa [stT] using hM3
  · repeat' first | (apply s'2; (focus exact w'2); all_goals intro _; all_goals try first | contradiction | (exfalso; omega) | exact absurd trivial ‹_›) | (apply s'1; (focus exact w'1); intro _) | (apply s'0; focus exact w'0) | fail
    refine ⟨.inl rfl, [], by exact xx, M2, ?_, rfl⟩
    rw [witT, ← List.append_assoc]
    rwa [show i = w.st.length by omega, List.take_length] at hM2
end Go.AM

set_option linter.unusedVariables false
set_option linter.unusedSimpArgs false
namespace Go.AM
open Go.Lib
attribute [-simp] List.length_flatten List.map_flatten List.map_take List.map_map List.flatten_append
/-- A verdict, but for one that is consistent. -/
@[reducible] def eVd (e a i j lv cl cn : Int) (r b s : List V) (w : Wit) : V := .agg [.int .i64 e, .int .i64 a, .int .i64 i, .int .i64 j, .int .i64 lv, .bool false, .int .i64 cl, .int .i64 cn, .lst r, .lst b, .lst s, .int .i64 w.k, .int .i64 w.r, .int .i64 w.w1, .int .i64 w.w2, .int .i64 w.o, .lst (w.st.map eStp), .int .i64 w.f, .int .i64 w.s]
def errL (e a i j : Int) : List Int := [e, a, i, j]
def errT (e a i j : Int) : List UInt8 := numT [101, 114, 114, 111, 114] (errL e a i j)
def incT (lv : Int) : List UInt8 := numT [105, 110, 99, 111, 110, 115, 105, 115, 116, 101, 110, 116] [lv]
def vdT (e a i j lv : Int) (w : Wit) : List UInt8 := if e = 0 then incT lv ++ witT w else errT e a i j
def okVd (e a i j lv : Int) (w : Wit) : Prop := okN e ∧ okN a ∧ okN i ∧ okN j ∧ okN lv ∧ okWit w
theorem okNm_err {e a i j : Int} (h1 : okN e) (h2 : okN a) (h3 : okN i) (h4 : okN j) : okNm [101, 114, 114, 111, 114] (errL e a i j) := by
  refine ⟨by decide, by simp [errL], fun y hy => ?_⟩
  simp only [errL, List.mem_cons, List.not_mem_nil, or_false] at hy
  rcases hy with rfl | rfl | rfl | rfl <;> assumption
theorem okNm_inc {lv : Int} (h1 : okN lv) : okNm [105, 110, 99, 111, 110, 115, 105, 115, 116, 101, 110, 116] [lv] := by
  refine ⟨by decide, by simp, fun y hy => ?_⟩
  simp only [List.mem_cons, List.not_mem_nil, or_false] at hy
  subst hy; assumption
theorem witT_len {w : Wit} (ok : okWit w) : (witT w).length ≤ 162 + 115 * w.st.length := by
  have h1 := patT_len ok
  have h2 := sts_len ok.2.2
  rw [witT, List.length_append]; omega
theorem rs_perm {T : Nat → Option Fn} {S : Bool} {bs : List BS} {lv : Mask} {ds : List (Nat × E)} {z : List E} {A : Sl} {L L' : List HE} {K : List V → Sl → List HE → Prop} (hs : L.Perm L') (h : RS T S bs lv ds z A L' K) : RS T S bs lv ds z A L K := fun H hp => h H (hp.perm hs)
set_option maxHeartbeats 8000000 in
instance tell_Text (e a i j lv cl cn : Int) (r b s : List V) (w : Wit) : PCon T0 n.tell_Text [eVd e a i j lv cl cn r b s w] false (okVd e a i j lv w) (.str (vdT e a i j lv w)) := ⟨fun ⟨h1, h2, h3, h4, h5, ok⟩ => by
  have hel := numT_len (okNm_err h1 h2 h3 h4)
  have hil := numT_len (okNm_inc h5)
  have hwl := witT_len ok
  have hs := ok.2.1
  refine pc tabOk ?_
  repeat' first | (apply s'2; (focus exact w'2); all_goals intro _; all_goals try first | contradiction | (exfalso; omega) | exact absurd trivial ‹_›) | (apply s'1; (focus exact w'1); intro _) | (apply s'0; focus exact w'0) | fail
  rename_i vid
  refine rmB (by exact xx) (by exact xx) ?_
  intro id
  refine rs_perm (L' := [.ob vid (.row 19 false [eVd e a i j lv cl cn r b s w])] ++ [.ob id (.trow 70 true [.nilp, .nil])]) swap2 ?_
  have hM : Bd id 70 [] [.ob id (.trow 70 true [.nilp, .nil])] := Bd.new (.inr rfl)
  generalize [HE.ob id (.trow 70 true [.nilp, .nil])] = M at hM ⊢
  repeat' first | (apply s'2; (focus exact w'2); all_goals intro _; all_goals try first | contradiction | (exfalso; omega) | exact absurd trivial ‹_›) | (apply s'1; (focus exact w'1); intro _) | (apply s'0; focus exact w'0) | fail
  · rename_i hne g
    refine rc (by exact xx) (AC.mk (by exact xx) (say_ce [.own g 1 true ((errL e a i j).map (V.int .i64)), .ob vid (.row 19 false [eVd e a i j lv cl cn r b s w])] hM (okNm_err h1 h2 h3 h4) (by simp) (Hd.known g) (dp_ownm List.mem_cons_self (fun _ => rfl)))) ?_
    rintro _ _ ⟨M1, hM1, rfl⟩
    repeat' first | (apply s'2; (focus exact w'2); all_goals intro _; all_goals try first | contradiction | (exfalso; omega) | exact absurd trivial ‹_›) | (apply s'1; (focus exact w'1); intro _) | (apply s'0; focus exact w'0) | fail
    refine rc (by exact xx) (AC.mk (by exact xx) (st_ce [.own g 1 true ((errL e a i j).map (V.int .i64)), .ob vid (.row 19 false [eVd e a i j lv cl cn r b s w])] hM1 (by rw [List.nil_append]; simp only [List.length_cons, List.length_nil, errL] at hel; simp only [errL]; omega))) ?_
    rintro _ _ ⟨rfl, rfl⟩
    repeat' first | (apply s'2; (focus exact w'2); all_goals intro _; all_goals try first | contradiction | (exfalso; omega) | exact absurd trivial ‹_›) | (apply s'1; (focus exact w'1); intro _) | (apply s'0; focus exact w'0) | fail
    refine fz ?_
    rw [vdT, if_neg (by first | exact hne | simpa using hne)]
    rfl
  · rename_i heq g
    refine rc (by exact xx) (AC.mk (by exact xx) (say_ce (l := [lv]) [.own g 1 true [.int .i64 lv], .ob vid (.row 19 false [eVd e a i j lv cl cn r b s w])] hM (okNm_inc h5) (by simp) (Hd.known g) (dp_ownm (f := V.int .i64) (xs := [lv]) List.mem_cons_self (fun _ => rfl)))) ?_
    rintro _ _ ⟨M1, hM1, rfl⟩
    repeat' first | (apply s'2; (focus exact w'2); all_goals intro _; all_goals try first | contradiction | (exfalso; omega) | exact absurd trivial ‹_›) | (apply s'1; (focus exact w'1); intro _) | (apply s'0; focus exact w'0) | fail
    refine rc (by exact xx) (AC.mk (by exact xx) (wit_ce [.own g 1 true [.int .i64 lv], .ob vid (.row 19 false [eVd e a i j lv cl cn r b s w])] hM1 ok (by rw [List.nil_append]; simp only [List.length_cons, List.length_nil] at hil; omega))) ?_
    rintro _ _ ⟨M2, hM2, rfl⟩
    repeat' first | (apply s'2; (focus exact w'2); all_goals intro _; all_goals try first | contradiction | (exfalso; omega) | exact absurd trivial ‹_›) | (apply s'1; (focus exact w'1); intro _) | (apply s'0; focus exact w'0) | fail
    refine rc (by exact xx) (AC.mk (by exact xx) (st_ce [.own g 1 true [.int .i64 lv], .ob vid (.row 19 false [eVd e a i j lv cl cn r b s w])] hM2 (by rw [List.nil_append, List.length_append]; simp only [List.length_cons, List.length_nil] at hil; omega))) ?_
    rintro _ _ ⟨rfl, rfl⟩
    repeat' first | (apply s'2; (focus exact w'2); all_goals intro _; all_goals try first | contradiction | (exfalso; omega) | exact absurd trivial ‹_›) | (apply s'1; (focus exact w'1); intro _) | (apply s'0; focus exact w'0) | fail
    refine fz ?_
    rw [vdT, if_pos (by omega)]
    rfl⟩
end Go.AM

set_option linter.unusedVariables false
set_option linter.unusedSimpArgs false
namespace Go.AM
open Go.Lib
attribute [-simp] List.length_flatten List.map_flatten List.map_take List.map_map List.flatten_append
instance (q : Int) : Decidable (okN q) := by unfold okN; infer_instance
theorem dec1 {u : Nat} (h : u < 10) : itoa (u : Int) = [UInt8.ofNat (48 + u)] := by
  rw [itoa, if_neg (by omega)]
  exact dec_small h
abbrev zWit : Wit := ⟨0, 0, 0, 0, 0, [], 0, 0⟩
theorem ex26a : vdT 2 5 0 0 0 zWit = [101, 114, 114, 111, 114, 32, 50, 32, 53, 32, 48, 32, 48, 10] := by
  rw [vdT, if_neg (by decide), errT, numT, errL]
  simp only [List.flatMap_cons, List.flatMap_nil]
  rw [show (2 : Int) = ((2 : Nat) : Int) from rfl, show (5 : Int) = ((5 : Nat) : Int) from rfl, show (0 : Int) = ((0 : Nat) : Int) from rfl, dec1 (by decide), dec1 (by decide), dec1 (by decide)]
  rfl
theorem ex26b : join [[97], [98]] [32] ++ [10] = [97, 32, 98, 10] := by decide
theorem ex26c : numT [97, 114, 98] [] = [97, 114, 98, 10] := by decide
set_option maxHeartbeats 4000000 in
instance awake26 : PCon T0 n.law26_awake [] false True (.bool true) := ⟨fun _ => by
  have c1 : PCon T0 n.tell_Text [eVd 2 5 0 0 0 0 0 [] [] [] zWit] false True (.str [101, 114, 114, 111, 114, 32, 50, 32, 53, 32, 48, 32, 48, 10]) := ⟨fun _ => by
    have := (tell_Text 2 5 0 0 0 0 0 [] [] [] zWit).con ⟨by decide, by decide, by decide, by decide, by decide, ⟨by decide, by decide, by decide, by decide, by decide, by decide, by decide⟩, by decide, fun _ h => by cases h⟩
    rwa [ex26a] at this⟩
  have c2 : PCon T0 n.tell_Line [.lst [.str [97], .str [98]]] false True (.str [97, 32, 98, 10]) := ⟨fun _ => by
    have := (tell_Line [[97], [98]]).con ⟨by decide, by decide⟩
    rwa [ex26b] at this⟩
  have c3 : PCon T0 n.tell_Numbers [.str [97, 114, 98], .lst []] false True (.str [97, 114, 98, 10]) := ⟨fun _ => by
    have := (tell_Numbers [97, 114, 98] []).con ⟨by decide, by decide, fun _ h => by cases h⟩
    rwa [ex26c] at this⟩
  refine pc tabOk ?_
  repeat' first | (apply s'2; (focus exact w'2); all_goals intro _; all_goals try first | contradiction | (exfalso; omega) | exact absurd trivial ‹_›) | (apply s'1; (focus exact w'1); intro _) | (apply s'0; focus exact w'0) | fail
  refine wh_raw ?_
  repeat' first | (apply s'2; (focus exact w'2); all_goals intro _; all_goals try first | contradiction | (exfalso; omega) | exact absurd trivial ‹_›) | (apply s'1; (focus exact w'1); intro _) | (apply s'0; focus exact w'0) | fail
  refine fz ?_
  decide +kernel⟩
end Go.AM

