/- Part ZC of the proof. -/
import Derived.Test.YthhgiappgpeloaaDoorTA
import Derived.Test.YthhgiappgpeloaaDoorA3
import Derived.Test.YthhgiappgpeloaaDoorZB
import Derived.Test.YthhgiappgpeloaaDoorZA
set_option linter.unusedVariables false
set_option linter.unusedSimpArgs false
namespace Go.AM
/-! The builder in memory, and what its methods do. -/
def bv : Option Nat → List UInt8 → V
  | none, _ => .nil
  | some g, bs => .ref g 1 0 bs.length
def bh : Option Nat → List UInt8 → List HE
  | none, _ => []
  | some g, bs => [.ob g (.trow 5 false (bs.map eB'))]
def bl (id t : Nat) (p : V) (g : Option Nat) (bs : List UInt8) : List HE := .ob id (.trow t true [p, bv g bs]) :: bh g bs
structure OkBl (id t : Nat) (p : V) (g : Option Nat) (bs : List UInt8) : Prop where
  ty : t = 68 ∨ t = 70
  pt : p = .nilp ∨ p = .ptr id 2 0 0
  no : g = none → bs = []
  so : g ≠ none → 0 < bs.length
/-- A builder that holds bs, and nothing else. -/
def Bd (id t : Nat) (bs : List UInt8) (M : List HE) : Prop := ∃ p g, OkBl id t p g bs ∧ M = bl id t p g bs
theorem Bd.new {id t : Nat} (h : t = 68 ∨ t = 70) : Bd id t [] [.ob id (.trow t true [.nilp, .nil])] := ⟨.nilp, none, ⟨h, .inl rfl, fun _ => rfl, fun h => absurd rfl h⟩, rfl⟩
theorem HP.swap {H : Heap} {a b : List HE} (h : HP H (a ++ b)) : HP H (b ++ a) := h.perm List.perm_append_comm
theorem HP.in {H : Heap} {L : List HE} (h : HP H L) {id : Nat} {o : O} (hm : HE.ob id o ∈ L) : H[id]? = some o := h.all _ hm
theorem HP.lt {H : Heap} {L : List HE} (h : HP H L) {id : Nat} {o : O} (hm : HE.ob id o ∈ L) : id < H.length := (List.getElem?_eq_some_iff.1 (h.in hm)).1
theorem HP.put {H : Heap} {id : Nat} {o o' : O} {L : List HE} (h : HP H (.ob id o :: L)) : HP (H.set id o') (.ob id o' :: L) :=
  h.change .here (fun i hi _ => List.getElem?_set_ne (fun e => hi (by simp [HE.ids, e]))) (List.getElem?_set_self (h.lt List.mem_cons_self)) (fun j hj => .inl hj) (by simp [HE.ids])
theorem HP.away {H : Heap} {id : Nat} {o : O} {L : List HE} (h : HP H (.ob id o :: L)) : HP (H.set id .dead) L :=
  (h.change (H' := H.set id .dead) (e' := .own .nil 0 true []) .here (fun i hi _ => List.getElem?_set_ne (fun e => hi (by simp [HE.ids, e]))) (.inl ⟨rfl, rfl⟩) (fun j hj => by simp [HE.ids, Hd.ids] at hj) (by simp [HE.ids, Hd.ids])).sub (List.sublist_cons_self _ _)
theorem swap2 {a b : HE} {L : List HE} : (a :: b :: L).Perm (b :: a :: L) := List.Perm.swap b a L
theorem wr_hp {H : Heap} {id t : Nat} {p : V} {g : Option Nat} {bs s : List UInt8} {L : List HE} (hp : HP H (bl id t p g bs ++ L)) (ok : OkBl id t p g bs) (hb : bs.length + s.length ≤ 1099511627776) :
    ∃ H' g', gW id (s.map eB') H = some H' ∧ OkBl id t (.ptr id 2 0 0) g' (bs ++ s) ∧ HP H' (bl id t (.ptr id 2 0 0) g' (bs ++ s) ++ L) := by
  obtain ⟨h1, h2, h3, h4⟩ := ok
  have hi : H[id]? = some (.trow t true [p, bv g bs]) := hp.in (L := bl id t p g bs ++ L) List.mem_cons_self
  cases g with
  | none =>
    have hbs := h3 rfl
    subst hbs
    have hp' : HP H (.ob id (.trow t true [p, .nil]) :: L) := hp
    have hp1 : HP (H.set id (.trow t true [.ptr id 2 0 0, .nil])) (.ob id (.trow t true [.ptr id 2 0 0, .nil]) :: L) := hp'.put
    by_cases hs : s = []
    · subst hs
      refine ⟨_, none, ?_, ⟨h1, .inr rfl, fun _ => rfl, fun h => absurd rfl h⟩, hp1⟩
      unfold gW
      rw [hi]
      simp only [List.map_nil, if_true, bv]
      rw [if_pos ⟨h1, h2⟩]
    · refine ⟨((H.set id (.trow t true [.ptr id 2 0 0, .nil]) ++ [O.trow 5 false (s.map eB')]).set id (.trow t true [.ptr id 2 0 0, .ref H.length 1 0 (s.map eB').length])), some H.length, ?_, ⟨h1, .inr rfl, fun h => (by cases h), fun _ => (by rw [List.nil_append]; exact List.length_pos_iff.2 hs)⟩, ?_⟩
      · unfold gW
        rw [hi]
        simp only [bv]
        rw [if_pos ⟨h1, h2⟩, if_neg (by simpa using hs), if_pos (by rw [List.length_map]; simpa using hb)]
      · have hp2 := hp1.push (.trow 5 false (s.map eB'))
        rw [List.length_set] at hp2
        have hp3 := (hp2.perm swap2).put (o' := .trow t true [.ptr id 2 0 0, .ref H.length 1 0 (s.map eB').length])
        have e : (bl id t (.ptr id 2 0 0) (some H.length) ([] ++ s) ++ L) = .ob id (.trow t true [.ptr id 2 0 0, .ref H.length 1 0 (s.map eB').length]) :: .ob H.length (.trow 5 false (s.map eB')) :: L := by
          simp [bl, bv, bh]
        rw [e]
        exact hp3
  | some g =>
    have hbs := h4 (by simp)
    have hp' : HP H (.ob id (.trow t true [p, .ref g 1 0 bs.length]) :: .ob g (.trow 5 false (bs.map eB')) :: L) := hp
    have hg := hp'.in (id := g) (o := .trow 5 false (bs.map eB')) (by simp)
    have hne : g ≠ id := by
      have := hp'.nd
      simp only [List.flatMap_cons, HE.ids, List.singleton_append, List.nodup_cons, List.mem_cons, not_or] at this
      exact fun e => this.1.1 e.symm
    refine ⟨(((H.set id (.trow t true [.ptr id 2 0 0, .ref g 1 0 bs.length])).set g .dead ++ [O.trow 5 false (bs.map eB' ++ s.map eB')]).set id (.trow t true [.ptr id 2 0 0, .ref H.length 1 0 (bs.length + (s.map eB').length)])), some H.length, ?_, ⟨h1, .inr rfl, fun h => by (cases h), fun _ => by rw [List.length_append]; omega⟩, ?_⟩
    · unfold gW
      rw [hi]
      simp only [bv]
      rw [if_pos ⟨h1, h2⟩, hg]
      simp only
      rw [if_pos ⟨by rw [List.length_map], hbs, by rw [List.length_map]; exact hb, hne⟩]
    · have hp1 : HP (H.set id (.trow t true [.ptr id 2 0 0, .ref g 1 0 bs.length])) (.ob id (.trow t true [.ptr id 2 0 0, .ref g 1 0 bs.length]) :: .ob g (.trow 5 false (bs.map eB')) :: L) := hp'.put
      have hp2 := (hp1.perm swap2).away
      have hp3 := hp2.push (.trow 5 false (bs.map eB' ++ s.map eB'))
      rw [List.length_set, List.length_set] at hp3
      have hp4 := (hp3.perm swap2).put (o' := .trow t true [.ptr id 2 0 0, .ref H.length 1 0 (bs.length + (s.map eB').length)])
      have e : (bl id t (.ptr id 2 0 0) (some H.length) (bs ++ s) ++ L) = .ob id (.trow t true [.ptr id 2 0 0, .ref H.length 1 0 (bs.length + (s.map eB').length)]) :: .ob H.length (.trow 5 false (bs.map eB' ++ s.map eB')) :: L := by
        simp [bl, bv, bh]
      rw [e]
      exact hp4
theorem ws_ce (pre : List HE) {id t : Nat} {bs s : List UInt8} {M : List HE} (h : Bd id t bs M) (hb : bs.length + s.length ≤ 1099511627776) :
    CE T0 n.strings_Builder__WriteString [.ptr id 2 0 0, .str s] (pre ++ M) (fun u L' => u = .tup [.int .i64 (s.length : Nat), .undef] ∧ ∃ M', Bd id t (bs ++ s) M' ∧ L' = pre ++ M') := fun H hp => by
  obtain ⟨p, g, ok, rfl⟩ := h
  obtain ⟨H', g', h1, h2, h3⟩ := wr_hp hp.swap ok hb
  refine ⟨_, H', _, rowX (g := gWS) rfl ?_, h3.swap, rfl, _, ⟨_, _, h2, rfl⟩, rfl⟩
  simp only [gWS, h1, Option.map_some]
theorem wb_ce (pre : List HE) {id t : Nat} {bs : List UInt8} {c : UInt8} {M : List HE} (h : Bd id t bs M) (hb : bs.length + 1 ≤ 1099511627776) :
    CE T0 n.strings_Builder__WriteByte [.ptr id 2 0 0, .int .u8 (c.toNat : Nat)] (pre ++ M) (fun u L' => u = .undef ∧ ∃ M', Bd id t (bs ++ [c]) M' ∧ L' = pre ++ M') := fun H hp => by
  obtain ⟨p, g, ok, rfl⟩ := h
  obtain ⟨H', g', h1, h2, h3⟩ := wr_hp (s := [c]) hp.swap ok hb
  refine ⟨_, H', _, rowX (g := gWB) rfl ?_, h3.swap, rfl, _, ⟨_, _, h2, rfl⟩, rfl⟩
  simp only [gWB]
  rw [show ([V.int .u8 (c.toNat : Nat)] : List V) = [c].map eB' from rfl, h1]
  rfl
theorem unB_e (c : UInt8) : unB (eB' c) = some c := by
  have h := c.toNat_lt
  simp only [unB, eB']
  rw [if_pos ⟨by omega, by omega⟩]
  simp
theorem unBs_e (l : List UInt8) : (l.map eB').mapM unB = some l := by
  induction l with
  | nil => rfl
  | cons c r ih => simp [unB_e, ih]
/-- String: the builder's end. -/
theorem st_ce (pre : List HE) {id t : Nat} {bs : List UInt8} {M : List HE} (h : Bd id t bs M) (hb : bs.length ≤ 1099511627776) :
    CE T0 n.strings_Builder__String [.ptr id 2 0 0] (pre ++ M) (fun u L' => u = .str bs ∧ L' = pre) := fun H hp => by
  obtain ⟨p, g, ⟨h1, h2, h3, h4⟩, rfl⟩ := h
  have hi : H[id]? = some (.trow t true [p, bv g bs]) := hp.swap.in (L := bl id t p g bs ++ pre) List.mem_cons_self
  cases g with
  | none =>
    have hbs := h3 rfl
    subst hbs
    refine ⟨_, H, _, rowX (g := gStr) rfl ?_, hp.sub (List.sublist_append_left _ _), rfl, rfl⟩
    simp only [gStr, hi, bv]
    rw [if_pos h2]
  | some g =>
    have hbs := h4 (by simp)
    have hp' : HP H (.ob id (.trow t true [p, .ref g 1 0 bs.length]) :: .ob g (.trow 5 false (bs.map eB')) :: pre) := hp.swap
    have hg := hp'.in (id := g) (o := .trow 5 false (bs.map eB')) (by simp)
    refine ⟨_, H.set g .dead, _, rowX (g := gStr) rfl ?_, (hp'.perm swap2).away.sub (List.sublist_cons_self _ _), rfl, rfl⟩
    simp only [gStr, hi, bv]
    rw [if_pos h2, hg]
    simp only
    rw [if_pos ⟨by rw [List.length_map], hbs, hb⟩, unBs_e]
    rfl
section
variable {T : Nat → Option Fn} {A A' : Sl} {L : List HE} {ds1 : List (Nat × E)} {kf : Mask} {d : Option Nat} {bs : List BS} {lv : Mask} {ds : List (Nat × E)} {z : List E} {K : List V → Sl → List HE → Prop}
theorem rmT {t : Nat} (hr : AR T A L ds1 kf A') (h : ∀ id, RS T false bs lv ds z (insD d (.ptr id 2 0 0) A') (.ob id (.trow t true [.nilp, .nil]) :: L) K) : RS T false (.eff ds1 kf d (.l (.allocT t)) [] :: bs) lv ds z A L K := by
  obtain ⟨ws, hd, hA⟩ := hr.get
  exact rs_eff hd ev_nil hA fun H hp => ⟨_, _, _, ⟨_, rfl, rfl⟩, hp.push _, h _⟩
theorem rmB {t : Nat} {e : E} (hr : AR T A L ds1 kf A') (he : Ev T A L e (.agg [.nilp, .nil])) (h : ∀ id, RS T false bs lv ds z (insD d (.ptr id 2 0 0) A') (.ob id (.trow t true [.nilp, .nil]) :: L) K) : RS T false (.eff ds1 kf d (.l (.boxT t (.t 0))) [e] :: bs) lv ds z A L K := by
  obtain ⟨ws, hd, hA⟩ := hr.get
  exact rs_eff hd (ev_cons he ev_nil) hA fun H hp => ⟨_, _, _, ⟨_, by simp only [stepL, evl, List.getD_cons_zero, if_true], rfl⟩, hp.push _, h _⟩
end
end Go.AM

set_option linter.unusedVariables false
set_option linter.unusedSimpArgs false
namespace Go.AM
open Go.Lib
attribute [-simp] List.length_flatten List.map_flatten List.map_take List.map_map List.flatten_append
/-- An operation's text. -/
def opT (o : Op) : List UInt8 := ((((if o.w then [119] else [114]) ++ [58]) ++ o.v) ++ [61]) ++ itoa o.x
def okO (o : Op) : Prop := o.v.length ≤ 1048576 ∧ okN o.x
theorem opT_len {o : Op} (h : okN o.x) : (opT o).length ≤ 24 + o.v.length := by
  have := itoa_len h
  unfold opT
  cases o.w <;> simp <;> omega
instance show_Op (o : Op) : PCon T0 n.show_Op [eOp o] false (okO o) (.str (opT o)) := ⟨fun ⟨h1, h2⟩ => by
  have h3 := itoa_len h2
  refine pc tabOk ?_
  repeat' first | (apply dr_fin; (focus exact xx)) | (apply dr_gt; (focus exact xx)) | (apply dr_gf; (focus exact xx); (focus first | exact .inl rfl | exact .inr rfl); focus (first | exact InD.no | (apply InD.so; (focus exact xx)))) | (apply dr_v; focus (apply DV.mk; (focus exact RF.mk rfl); (focus exact RF.mk rfl); (focus exact RF.mk rfl); (focus exact RF.mk rfl); (focus exact xx); focus (first | exact InD.no | (apply InD.so; (focus exact xx))))) | (apply dr_ve; focus (apply DVE.mk; (focus exact RF.mk rfl); (focus exact RF.mk rfl); (focus exact RF.mk rfl); (focus exact xx); focus (first | exact InD.no | (apply InD.so; (focus exact xx))))) | (apply dr_r; focus (apply DL.mk; (focus exact RF.mk rfl); (focus exact xx); (focus exact xx); focus (first | exact InD.no | (apply InD.so; (focus exact xx))))) | (apply dr_l; (focus exact RF.mk rfl); (focus exact RF.mk rfl); (focus exact RF.mk rfl); (focus exact RF.mk rfl); (focus exact RF.mk rfl)) | (apply dr_e; (focus exact RF.mk rfl); (focus exact RF.mk rfl); (focus exact RF.mk rfl); (focus exact RF.mk rfl)) | (apply rd_e; (focus exact xx); focus (repeat first | exact PO.nil | apply PO.zero | (apply PO.ld; (focus exact xx)))) | (apply rd_l; (focus exact xx)) | refine wh_seq ?_ | refine wh_skip ?_ | refine wh_block ?_ | refine wh_end ?_ | refine wh_exit ?_ | refine wh_ret ?_ | refine bk_norm ?_ | refine bk_exit ?_ | refine bk_ret ?_ | refine fr_exit ?_ | refine fr_ret ?_ | refine lp_exit ?_ | refine lp_ret ?_ | refine jn_exit ?_ | refine jn_ret ?_ | refine bk_other rfl ?_ | (apply wr; focus exact xx) | (apply wi; (focus exact xx); (focus exact xx); all_goals intro _; all_goals try first | contradiction | (exfalso; omega) | exact absurd trivial ‹_›) | refine wh_reg ?_ | refine wh_ife ?_ | (apply re; focus exact xx) | (apply rf; (focus exact xx); (focus exact xx); all_goals intro _; all_goals try first | contradiction | (exfalso; omega) | exact absurd trivial ‹_›) | (apply ra; (focus exact xx); (focus exact xx); intro _) | (apply r1; (focus exact xx); (focus exact xx); intro _) | (apply rl; (focus exact xx); (focus exact xx); intro _) | (apply rb; (focus exact xx); (focus exact xx); intro _) | (apply rsi; (focus exact xx); (focus exact xx); all_goals try infer_instance) | (apply rsz; (focus exact xx); (focus exact xx); all_goals try infer_instance) | (apply rt; (focus exact xx); (focus exact xx)) | (apply rso; (focus exact xx); (focus exact xx); all_goals try infer_instance) | (apply rmm; (focus exact xx); intro _) | (apply rsb; (focus exact xx); (focus exact xx)) | (apply ru; (focus exact xx); (focus exact xx)) | (apply rm; (focus exact xx); (focus exact xx); intro _) | (apply rk; (focus exact xx); (focus exact xx); intro _) | (apply rcf; (focus exact xx); (focus (apply ACF.mk; (focus exact xx); (focus exact inferInstance); (focus exact xx); (focus exact inferInstance); (focus exact xx); (focus exact rfl)))) | (apply rco; (focus exact xx); (focus (apply ACO.mk; (focus exact xx); (focus exact xx); (focus exact inferInstance); (focus exact xx); (focus exact xx))); intro _) | (apply rc; (focus exact xx); (focus exact xx)) | (apply rk'; (focus exact xx); (focus exact xx))
  · rename_i hw
    refine fz ?_
    unfold opT
    rw [if_pos hw]
  · rename_i hw
    refine fz ?_
    unfold opT
    rw [if_neg hw]⟩
instance ref08_Op (o : Op) : PCon T0 n.ref08_Op [eOp o] false (okO o) (.str (opT o)) := ⟨fun ⟨h1, h2⟩ => by
  have h3 := itoa_len h2
  refine pc tabOk ?_
  repeat' first | (apply dr_fin; (focus exact xx)) | (apply dr_gt; (focus exact xx)) | (apply dr_gf; (focus exact xx); (focus first | exact .inl rfl | exact .inr rfl); focus (first | exact InD.no | (apply InD.so; (focus exact xx)))) | (apply dr_v; focus (apply DV.mk; (focus exact RF.mk rfl); (focus exact RF.mk rfl); (focus exact RF.mk rfl); (focus exact RF.mk rfl); (focus exact xx); focus (first | exact InD.no | (apply InD.so; (focus exact xx))))) | (apply dr_ve; focus (apply DVE.mk; (focus exact RF.mk rfl); (focus exact RF.mk rfl); (focus exact RF.mk rfl); (focus exact xx); focus (first | exact InD.no | (apply InD.so; (focus exact xx))))) | (apply dr_r; focus (apply DL.mk; (focus exact RF.mk rfl); (focus exact xx); (focus exact xx); focus (first | exact InD.no | (apply InD.so; (focus exact xx))))) | (apply dr_l; (focus exact RF.mk rfl); (focus exact RF.mk rfl); (focus exact RF.mk rfl); (focus exact RF.mk rfl); (focus exact RF.mk rfl)) | (apply dr_e; (focus exact RF.mk rfl); (focus exact RF.mk rfl); (focus exact RF.mk rfl); (focus exact RF.mk rfl)) | (apply rd_e; (focus exact xx); focus (repeat first | exact PO.nil | apply PO.zero | (apply PO.ld; (focus exact xx)))) | (apply rd_l; (focus exact xx)) | refine wh_seq ?_ | refine wh_skip ?_ | refine wh_block ?_ | refine wh_end ?_ | refine wh_exit ?_ | refine wh_ret ?_ | refine bk_norm ?_ | refine bk_exit ?_ | refine bk_ret ?_ | refine fr_exit ?_ | refine fr_ret ?_ | refine lp_exit ?_ | refine lp_ret ?_ | refine jn_exit ?_ | refine jn_ret ?_ | refine bk_other rfl ?_ | (apply wr; focus exact xx) | (apply wi; (focus exact xx); (focus exact xx); all_goals intro _; all_goals try first | contradiction | (exfalso; omega) | exact absurd trivial ‹_›) | refine wh_reg ?_ | refine wh_ife ?_ | (apply re; focus exact xx) | (apply rf; (focus exact xx); (focus exact xx); all_goals intro _; all_goals try first | contradiction | (exfalso; omega) | exact absurd trivial ‹_›) | (apply ra; (focus exact xx); (focus exact xx); intro _) | (apply r1; (focus exact xx); (focus exact xx); intro _) | (apply rl; (focus exact xx); (focus exact xx); intro _) | (apply rb; (focus exact xx); (focus exact xx); intro _) | (apply rsi; (focus exact xx); (focus exact xx); all_goals try infer_instance) | (apply rsz; (focus exact xx); (focus exact xx); all_goals try infer_instance) | (apply rt; (focus exact xx); (focus exact xx)) | (apply rso; (focus exact xx); (focus exact xx); all_goals try infer_instance) | (apply rmm; (focus exact xx); intro _) | (apply rsb; (focus exact xx); (focus exact xx)) | (apply ru; (focus exact xx); (focus exact xx)) | (apply rm; (focus exact xx); (focus exact xx); intro _) | (apply rk; (focus exact xx); (focus exact xx); intro _) | (apply rcf; (focus exact xx); (focus (apply ACF.mk; (focus exact xx); (focus exact inferInstance); (focus exact xx); (focus exact inferInstance); (focus exact xx); (focus exact rfl)))) | (apply rco; (focus exact xx); (focus (apply ACO.mk; (focus exact xx); (focus exact xx); (focus exact inferInstance); (focus exact xx); (focus exact xx))); intro _) | (apply rc; (focus exact xx); (focus exact xx)) | (apply rk'; (focus exact xx); (focus exact xx))
  · rename_i hw
    refine fz ?_
    unfold opT
    rw [if_pos hw]; simp
  · rename_i hw
    refine fz ?_
    unfold opT
    rw [if_neg hw]; simp⟩
end Go.AM

set_option linter.unusedVariables false
set_option linter.unusedSimpArgs false
namespace Go.AM
open Go.Lib
attribute [-simp] List.length_flatten List.map_flatten List.map_take List.map_map List.flatten_append
/-- A session's text, without its end. -/
def lnT : List Op → List UInt8
  | [] => []
  | o :: r => opT o ++ r.flatMap fun o => 32 :: opT o
/-- A history's text. -/
def txT (h : List (List Op)) : List UInt8 := h.flatMap fun l => lnT l ++ [10]
theorem ln_snoc (l : List Op) (o : Op) : lnT (l ++ [o]) = lnT l ++ (if 0 < l.length then [32] else []) ++ opT o := by
  cases l with
  | nil => simp [lnT]
  | cons a r => simp [lnT]
theorem ln_step {l : List Op} {k : Nat} (h : k < l.length) : lnT (l.take (k + 1)) = lnT (l.take k) ++ (if 0 < k then [32] else []) ++ opT (nth l k) := by
  rw [take_nth h, ln_snoc, List.length_take, Nat.min_eq_left (by omega)]
theorem tx_step {h : List (List Op)} {i : Nat} (hi : i < h.length) : txT (h.take (i + 1)) = txT (h.take i) ++ lnT (nth h i) ++ [10] := by
  rw [take_nth hi]
  simp [txT]
theorem ln_len : ∀ (l : List Op), (∀ o ∈ l, (opT o).length ≤ 32) → (lnT l).length ≤ 33 * l.length
  | [], _ => by simp [lnT]
  | o :: r, h => by
    have h1 := h o (by simp)
    have h2 : ∀ (r : List Op), (∀ o ∈ r, (opT o).length ≤ 32) → (r.flatMap fun o => 32 :: opT o).length ≤ 33 * r.length := by
      intro r
      induction r with
      | nil => intro _; simp
      | cons a r ih =>
        intro h
        have := ih (fun o ho => h o (by simp [ho]))
        have ha := h a (by simp)
        rw [List.flatMap_cons, List.length_append, List.length_cons, List.length_cons]
        omega
    have := h2 r (fun o ho => h o (by simp [ho]))
    rw [lnT, List.length_append, List.length_cons]
    omega
theorem tx_len : ∀ (h : List (List Op)), (∀ l ∈ h, ∀ o ∈ l, (opT o).length ≤ 32) → (txT h).length ≤ 33 * h.flatten.length + h.length
  | [], _ => by simp [txT]
  | l :: r, h => by
    have h1 := ln_len l (h l (by simp))
    have h2 := tx_len r (fun l hl => h l (by simp [hl]))
    rw [txT, List.flatMap_cons, List.length_append, List.length_append, List.flatten_cons, List.length_append, List.length_cons]
    unfold txT at h2
    have e0 : ([] : List UInt8).length = 0 := rfl
    have e1 : (l :: r).length = r.length + 1 := rfl
    simp only [List.length_cons] at *
    omega
def okHx (h : List (List Op)) : Prop := hb h ∧ ∀ o ∈ h.flatten, okO o
theorem right_ops {h : List (List Op)} (ok : okHx h) (hr : rightB h = true) : h.flatten.length ≤ 4096 ∧ ∀ o ∈ h.flatten, (opT o).length ≤ 32 := by
  simp only [rightB, Bool.and_eq_true, decide_eq_true_eq, List.all_eq_true] at hr
  obtain ⟨h1, h2⟩ := hr
  first
    | (refine ⟨h1, fun o ho => ?_⟩
       have h3 := h2 o ho
       simp only [nameB, Bool.and_eq_true, decide_eq_true_eq] at h3
       have := opT_len (ok.2 o ho).2
       omega)
    | (refine ⟨h2, fun o ho => ?_⟩
       have h3 := h1 o ho
       simp only [nameB, Bool.and_eq_true, decide_eq_true_eq] at h3
       have := opT_len (ok.2 o ho).2
       omega)
theorem mem_row {h : List (List Op)} {i k : Nat} (hi : i < h.length) (hk : k < (nth h i).length) : nth (nth h i) k ∈ h.flatten := by
  rw [nth_eq hk]
  exact List.mem_flatten.2 ⟨nth h i, by rw [nth_eq hi]; exact List.getElem_mem hi, List.getElem_mem hk⟩
/-- How long it is, so far. -/
theorem part_len {h : List (List Op)} (hb' : hb h) (h1 : h.flatten.length ≤ 4096) (h2 : ∀ o ∈ h.flatten, (opT o).length ≤ 32) {i : Nat} (hi : i ≤ h.length) (k : Nat) : (txT (h.take i)).length ≤ 1500000 ∧ (i < h.length → (txT (h.take i) ++ lnT ((nth h i).take k)).length ≤ 1700000) := by
  have e1 := hb'.1
  have e2 := @flat_le _ h i
  have a1 := tx_len (h.take i) (fun l hl o ho => h2 o (List.mem_flatten.2 ⟨l, List.take_subset _ _ hl, ho⟩))
  rw [List.length_take, Nat.min_eq_left hi] at a1
  refine ⟨by omega, fun hlt => ?_⟩
  have e3 := flat_len (h := h) hlt
  have a2 := ln_len ((nth h i).take k) (fun o ho => h2 o (List.mem_flatten.2 ⟨nth h i, by rw [nth_eq hlt]; exact List.getElem_mem hlt, List.take_subset _ _ ho⟩))
  have e4 : ((nth h i).take k).length ≤ (nth h i).length := by rw [List.length_take]; omega
  rw [List.length_append]
  omega
def showV (h : List (List Op)) : V := if rightB h = true then .tup [.str (txT h), .int .i64 0] else .tup [.str [], .int .i64 1]
end Go.AM

set_option linter.unusedVariables false
set_option linter.unusedSimpArgs false
namespace Go.AM
open Go.Lib
attribute [-simp] List.length_flatten List.map_flatten List.map_take List.map_map List.flatten_append
set_option maxHeartbeats 2000000 in
instance ref08_Text (h : List (List Op)) : PCon T0 n.ref08_Text [eH h] false (okHx h) (showV h) := ⟨fun ok => by
  have b := ok.1
  have hrb : hb h ∧ ∀ o ∈ h.flatten, o.v.length ≤ 1048576 := ⟨ok.1, fun o ho => (ok.2 o ho).1⟩
  have hl := b.1
  by_cases hr : rightB h = true
  · obtain ⟨r1, r2⟩ := right_ops ok hr
    have c1 : PCon T0 n.ref06_Right [eH h] false True (.bool true) := ⟨fun _ => by
      have := (ref06_Right h).con hrb
      rwa [hr] at this⟩
    refine pc tabOk ?_
    repeat' first | (apply dr_fin; (focus exact xx)) | (apply dr_gt; (focus exact xx)) | (apply dr_gf; (focus exact xx); (focus first | exact .inl rfl | exact .inr rfl); focus (first | exact InD.no | (apply InD.so; (focus exact xx)))) | (apply dr_v; focus (apply DV.mk; (focus exact RF.mk rfl); (focus exact RF.mk rfl); (focus exact RF.mk rfl); (focus exact RF.mk rfl); (focus exact xx); focus (first | exact InD.no | (apply InD.so; (focus exact xx))))) | (apply dr_ve; focus (apply DVE.mk; (focus exact RF.mk rfl); (focus exact RF.mk rfl); (focus exact RF.mk rfl); (focus exact xx); focus (first | exact InD.no | (apply InD.so; (focus exact xx))))) | (apply dr_r; focus (apply DL.mk; (focus exact RF.mk rfl); (focus exact xx); (focus exact xx); focus (first | exact InD.no | (apply InD.so; (focus exact xx))))) | (apply dr_l; (focus exact RF.mk rfl); (focus exact RF.mk rfl); (focus exact RF.mk rfl); (focus exact RF.mk rfl); (focus exact RF.mk rfl)) | (apply dr_e; (focus exact RF.mk rfl); (focus exact RF.mk rfl); (focus exact RF.mk rfl); (focus exact RF.mk rfl)) | (apply rd_e; (focus exact xx); focus (repeat first | exact PO.nil | apply PO.zero | (apply PO.ld; (focus exact xx)))) | (apply rd_l; (focus exact xx)) | refine wh_seq ?_ | refine wh_skip ?_ | refine wh_block ?_ | refine wh_end ?_ | refine wh_exit ?_ | refine wh_ret ?_ | refine bk_norm ?_ | refine bk_exit ?_ | refine bk_ret ?_ | refine fr_exit ?_ | refine fr_ret ?_ | refine lp_exit ?_ | refine lp_ret ?_ | refine jn_exit ?_ | refine jn_ret ?_ | refine bk_other rfl ?_ | (apply wr; focus exact xx) | (apply wi; (focus exact xx); (focus exact xx); all_goals intro _; all_goals try first | contradiction | (exfalso; omega) | exact absurd trivial ‹_›) | refine wh_reg ?_ | refine wh_ife ?_ | (apply re; focus exact xx) | (apply rf; (focus exact xx); (focus exact xx); all_goals intro _; all_goals try first | contradiction | (exfalso; omega) | exact absurd trivial ‹_›) | (apply ra; (focus exact xx); (focus exact xx); intro _) | (apply r1; (focus exact xx); (focus exact xx); intro _) | (apply rl; (focus exact xx); (focus exact xx); intro _) | (apply rb; (focus exact xx); (focus exact xx); intro _) | (apply rsi; (focus exact xx); (focus exact xx); all_goals try infer_instance) | (apply rsz; (focus exact xx); (focus exact xx); all_goals try infer_instance) | (apply rt; (focus exact xx); (focus exact xx)) | (apply rso; (focus exact xx); (focus exact xx); all_goals try infer_instance) | (apply rmm; (focus exact xx); intro _) | (apply rsb; (focus exact xx); (focus exact xx)) | (apply ru; (focus exact xx); (focus exact xx)) | (apply rm; (focus exact xx); (focus exact xx); intro _) | (apply rk; (focus exact xx); (focus exact xx); intro _) | (apply rcf; (focus exact xx); (focus (apply ACF.mk; (focus exact xx); (focus exact inferInstance); (focus exact xx); (focus exact inferInstance); (focus exact xx); (focus exact rfl)))) | (apply rco; (focus exact xx); (focus (apply ACO.mk; (focus exact xx); (focus exact xx); (focus exact inferInstance); (focus exact xx); (focus exact xx))); intro _) | (apply rc; (focus exact xx); (focus exact xx)) | (apply rk'; (focus exact xx); (focus exact xx))
    refine wh_count h.length (fun i A L => A = [(0, eH h), (4, .str (txT (h.take i))), (5, .int .i64 (i : Nat))] ∧ L = []) ⟨rfl, rfl⟩ ?_
    rintro i A L hi ⟨rfl, rfl⟩
    obtain ⟨p1, p2⟩ := part_len b r1 r2 hi 0
    have hrow := @flat_len _ h i
    repeat' first | (apply dr_fin; (focus exact xx)) | (apply dr_gt; (focus exact xx)) | (apply dr_gf; (focus exact xx); (focus first | exact .inl rfl | exact .inr rfl); focus (first | exact InD.no | (apply InD.so; (focus exact xx)))) | (apply dr_v; focus (apply DV.mk; (focus exact RF.mk rfl); (focus exact RF.mk rfl); (focus exact RF.mk rfl); (focus exact RF.mk rfl); (focus exact xx); focus (first | exact InD.no | (apply InD.so; (focus exact xx))))) | (apply dr_ve; focus (apply DVE.mk; (focus exact RF.mk rfl); (focus exact RF.mk rfl); (focus exact RF.mk rfl); (focus exact xx); focus (first | exact InD.no | (apply InD.so; (focus exact xx))))) | (apply dr_r; focus (apply DL.mk; (focus exact RF.mk rfl); (focus exact xx); (focus exact xx); focus (first | exact InD.no | (apply InD.so; (focus exact xx))))) | (apply dr_l; (focus exact RF.mk rfl); (focus exact RF.mk rfl); (focus exact RF.mk rfl); (focus exact RF.mk rfl); (focus exact RF.mk rfl)) | (apply dr_e; (focus exact RF.mk rfl); (focus exact RF.mk rfl); (focus exact RF.mk rfl); (focus exact RF.mk rfl)) | (apply rd_e; (focus exact xx); focus (repeat first | exact PO.nil | apply PO.zero | (apply PO.ld; (focus exact xx)))) | (apply rd_l; (focus exact xx)) | refine wh_seq ?_ | refine wh_skip ?_ | refine wh_block ?_ | refine wh_end ?_ | refine wh_exit ?_ | refine wh_ret ?_ | refine bk_norm ?_ | refine bk_exit ?_ | refine bk_ret ?_ | refine fr_exit ?_ | refine fr_ret ?_ | refine lp_exit ?_ | refine lp_ret ?_ | refine jn_exit ?_ | refine jn_ret ?_ | refine bk_other rfl ?_ | (apply wr; focus exact xx) | (apply wi; (focus exact xx); (focus exact xx); all_goals intro _; all_goals try first | contradiction | (exfalso; omega) | exact absurd trivial ‹_›) | refine wh_reg ?_ | refine wh_ife ?_ | (apply re; focus exact xx) | (apply rf; (focus exact xx); (focus exact xx); all_goals intro _; all_goals try first | contradiction | (exfalso; omega) | exact absurd trivial ‹_›) | (apply ra; (focus exact xx); (focus exact xx); intro _) | (apply r1; (focus exact xx); (focus exact xx); intro _) | (apply rl; (focus exact xx); (focus exact xx); intro _) | (apply rb; (focus exact xx); (focus exact xx); intro _) | (apply rsi; (focus exact xx); (focus exact xx); all_goals try infer_instance) | (apply rsz; (focus exact xx); (focus exact xx); all_goals try infer_instance) | (apply rt; (focus exact xx); (focus exact xx)) | (apply rso; (focus exact xx); (focus exact xx); all_goals try infer_instance) | (apply rmm; (focus exact xx); intro _) | (apply rsb; (focus exact xx); (focus exact xx)) | (apply ru; (focus exact xx); (focus exact xx)) | (apply rm; (focus exact xx); (focus exact xx); intro _) | (apply rk; (focus exact xx); (focus exact xx); intro _) | (apply rcf; (focus exact xx); (focus (apply ACF.mk; (focus exact xx); (focus exact inferInstance); (focus exact xx); (focus exact inferInstance); (focus exact xx); (focus exact rfl)))) | (apply rco; (focus exact xx); (focus (apply ACO.mk; (focus exact xx); (focus exact xx); (focus exact inferInstance); (focus exact xx); (focus exact xx))); intro _) | (apply rc; (focus exact xx); (focus exact xx)) | (apply rk'; (focus exact xx); (focus exact xx))
    · refine wh_count (nth h i).length (fun k A L => ∃ t, t = txT (h.take i) ++ lnT ((nth h i).take k) ∧ A = [(0, eH h), (4, .str t), (5, .int .i64 (i : Nat)), (6, .int .i64 (k : Nat))] ∧ L = []) ⟨_, by rw [List.take_zero, lnT, List.append_nil], rfl, rfl⟩ ?_
      rintro k A L hk ⟨t, ht, rfl, rfl⟩
      rename_i hlt
      have hlt' : i < h.length := by omega
      have q2 := (part_len b r1 r2 hi k).2 hlt'
      rw [← ht] at q2
      by_cases hkl : k < (nth h i).length
      · have ho := mem_row hlt' hkl
        have o1 := ok.2 _ ho
        have o2 := r2 _ ho
        have hst : (t ++ [32]).length = t.length + 1 := by simp
        repeat' first | (apply dr_fin; (focus exact xx)) | (apply dr_gt; (focus exact xx)) | (apply dr_gf; (focus exact xx); (focus first | exact .inl rfl | exact .inr rfl); focus (first | exact InD.no | (apply InD.so; (focus exact xx)))) | (apply dr_v; focus (apply DV.mk; (focus exact RF.mk rfl); (focus exact RF.mk rfl); (focus exact RF.mk rfl); (focus exact RF.mk rfl); (focus exact xx); focus (first | exact InD.no | (apply InD.so; (focus exact xx))))) | (apply dr_ve; focus (apply DVE.mk; (focus exact RF.mk rfl); (focus exact RF.mk rfl); (focus exact RF.mk rfl); (focus exact xx); focus (first | exact InD.no | (apply InD.so; (focus exact xx))))) | (apply dr_r; focus (apply DL.mk; (focus exact RF.mk rfl); (focus exact xx); (focus exact xx); focus (first | exact InD.no | (apply InD.so; (focus exact xx))))) | (apply dr_l; (focus exact RF.mk rfl); (focus exact RF.mk rfl); (focus exact RF.mk rfl); (focus exact RF.mk rfl); (focus exact RF.mk rfl)) | (apply dr_e; (focus exact RF.mk rfl); (focus exact RF.mk rfl); (focus exact RF.mk rfl); (focus exact RF.mk rfl)) | (apply rd_e; (focus exact xx); focus (repeat first | exact PO.nil | apply PO.zero | (apply PO.ld; (focus exact xx)))) | (apply rd_l; (focus exact xx)) | refine wh_seq ?_ | refine wh_skip ?_ | refine wh_block ?_ | refine wh_end ?_ | refine wh_exit ?_ | refine wh_ret ?_ | refine bk_norm ?_ | refine bk_exit ?_ | refine bk_ret ?_ | refine fr_exit ?_ | refine fr_ret ?_ | refine lp_exit ?_ | refine lp_ret ?_ | refine jn_exit ?_ | refine jn_ret ?_ | refine bk_other rfl ?_ | (apply wr; focus exact xx) | (apply wi; (focus exact xx); (focus exact xx); all_goals intro _; all_goals try first | contradiction | (exfalso; omega) | exact absurd trivial ‹_›) | refine wh_reg ?_ | refine wh_ife ?_ | (apply re; focus exact xx) | (apply rf; (focus exact xx); (focus exact xx); all_goals intro _; all_goals try first | contradiction | (exfalso; omega) | exact absurd trivial ‹_›) | (apply ra; (focus exact xx); (focus exact xx); intro _) | (apply r1; (focus exact xx); (focus exact xx); intro _) | (apply rl; (focus exact xx); (focus exact xx); intro _) | (apply rb; (focus exact xx); (focus exact xx); intro _) | (apply rsi; (focus exact xx); (focus exact xx); all_goals try infer_instance) | (apply rsz; (focus exact xx); (focus exact xx); all_goals try infer_instance) | (apply rt; (focus exact xx); (focus exact xx)) | (apply rso; (focus exact xx); (focus exact xx); all_goals try infer_instance) | (apply rmm; (focus exact xx); intro _) | (apply rsb; (focus exact xx); (focus exact xx)) | (apply ru; (focus exact xx); (focus exact xx)) | (apply rm; (focus exact xx); (focus exact xx); intro _) | (apply rk; (focus exact xx); (focus exact xx); intro _) | (apply rcf; (focus exact xx); (focus (apply ACF.mk; (focus exact xx); (focus exact inferInstance); (focus exact xx); (focus exact inferInstance); (focus exact xx); (focus exact rfl)))) | (apply rco; (focus exact xx); (focus (apply ACO.mk; (focus exact xx); (focus exact xx); (focus exact inferInstance); (focus exact xx); (focus exact xx))); intro _) | (apply rc; (focus exact xx); (focus exact xx)) | (apply rk'; (focus exact xx); (focus exact xx))
        · refine fr_next (by omega) sbc ⟨_, ?_, rfl, rfl⟩
          rw [ln_step hkl, if_pos (by omega), ht]
          simp
        · refine fr_next (by omega) sbc ⟨_, ?_, rfl, rfl⟩
          rw [ln_step hkl, if_neg (by omega), ht]
          simp
      · repeat' first | (apply dr_fin; (focus exact xx)) | (apply dr_gt; (focus exact xx)) | (apply dr_gf; (focus exact xx); (focus first | exact .inl rfl | exact .inr rfl); focus (first | exact InD.no | (apply InD.so; (focus exact xx)))) | (apply dr_v; focus (apply DV.mk; (focus exact RF.mk rfl); (focus exact RF.mk rfl); (focus exact RF.mk rfl); (focus exact RF.mk rfl); (focus exact xx); focus (first | exact InD.no | (apply InD.so; (focus exact xx))))) | (apply dr_ve; focus (apply DVE.mk; (focus exact RF.mk rfl); (focus exact RF.mk rfl); (focus exact RF.mk rfl); (focus exact xx); focus (first | exact InD.no | (apply InD.so; (focus exact xx))))) | (apply dr_r; focus (apply DL.mk; (focus exact RF.mk rfl); (focus exact xx); (focus exact xx); focus (first | exact InD.no | (apply InD.so; (focus exact xx))))) | (apply dr_l; (focus exact RF.mk rfl); (focus exact RF.mk rfl); (focus exact RF.mk rfl); (focus exact RF.mk rfl); (focus exact RF.mk rfl)) | (apply dr_e; (focus exact RF.mk rfl); (focus exact RF.mk rfl); (focus exact RF.mk rfl); (focus exact RF.mk rfl)) | (apply rd_e; (focus exact xx); focus (repeat first | exact PO.nil | apply PO.zero | (apply PO.ld; (focus exact xx)))) | (apply rd_l; (focus exact xx)) | refine wh_seq ?_ | refine wh_skip ?_ | refine wh_block ?_ | refine wh_end ?_ | refine wh_exit ?_ | refine wh_ret ?_ | refine bk_norm ?_ | refine bk_exit ?_ | refine bk_ret ?_ | refine fr_exit ?_ | refine fr_ret ?_ | refine lp_exit ?_ | refine lp_ret ?_ | refine jn_exit ?_ | refine jn_ret ?_ | refine bk_other rfl ?_ | (apply wr; focus exact xx) | (apply wi; (focus exact xx); (focus exact xx); all_goals intro _; all_goals try first | contradiction | (exfalso; omega) | exact absurd trivial ‹_›) | refine wh_reg ?_ | refine wh_ife ?_ | (apply re; focus exact xx) | (apply rf; (focus exact xx); (focus exact xx); all_goals intro _; all_goals try first | contradiction | (exfalso; omega) | exact absurd trivial ‹_›) | (apply ra; (focus exact xx); (focus exact xx); intro _) | (apply r1; (focus exact xx); (focus exact xx); intro _) | (apply rl; (focus exact xx); (focus exact xx); intro _) | (apply rb; (focus exact xx); (focus exact xx); intro _) | (apply rsi; (focus exact xx); (focus exact xx); all_goals try infer_instance) | (apply rsz; (focus exact xx); (focus exact xx); all_goals try infer_instance) | (apply rt; (focus exact xx); (focus exact xx)) | (apply rso; (focus exact xx); (focus exact xx); all_goals try infer_instance) | (apply rmm; (focus exact xx); intro _) | (apply rsb; (focus exact xx); (focus exact xx)) | (apply ru; (focus exact xx); (focus exact xx)) | (apply rm; (focus exact xx); (focus exact xx); intro _) | (apply rk; (focus exact xx); (focus exact xx); intro _) | (apply rcf; (focus exact xx); (focus (apply ACF.mk; (focus exact xx); (focus exact inferInstance); (focus exact xx); (focus exact inferInstance); (focus exact xx); (focus exact rfl)))) | (apply rco; (focus exact xx); (focus (apply ACO.mk; (focus exact xx); (focus exact xx); (focus exact inferInstance); (focus exact xx); (focus exact xx))); intro _) | (apply rc; (focus exact xx); (focus exact xx)) | (apply rk'; (focus exact xx); (focus exact xx))
        refine fr_next (by omega) sbc ⟨?_, rfl⟩
        rw [tx_step hlt', ht, show k = (nth h i).length by omega, List.take_length]
    · refine fz ?_
      rw [showV, if_pos hr, show i = h.length by omega, List.take_length]
      rfl
  · have c1 : PCon T0 n.ref06_Right [eH h] false True (.bool false) := ⟨fun _ => by
      have := (ref06_Right h).con hrb
      rwa [show rightB h = false by simpa using hr] at this⟩
    refine pc tabOk ?_
    repeat' first | (apply dr_fin; (focus exact xx)) | (apply dr_gt; (focus exact xx)) | (apply dr_gf; (focus exact xx); (focus first | exact .inl rfl | exact .inr rfl); focus (first | exact InD.no | (apply InD.so; (focus exact xx)))) | (apply dr_v; focus (apply DV.mk; (focus exact RF.mk rfl); (focus exact RF.mk rfl); (focus exact RF.mk rfl); (focus exact RF.mk rfl); (focus exact xx); focus (first | exact InD.no | (apply InD.so; (focus exact xx))))) | (apply dr_ve; focus (apply DVE.mk; (focus exact RF.mk rfl); (focus exact RF.mk rfl); (focus exact RF.mk rfl); (focus exact xx); focus (first | exact InD.no | (apply InD.so; (focus exact xx))))) | (apply dr_r; focus (apply DL.mk; (focus exact RF.mk rfl); (focus exact xx); (focus exact xx); focus (first | exact InD.no | (apply InD.so; (focus exact xx))))) | (apply dr_l; (focus exact RF.mk rfl); (focus exact RF.mk rfl); (focus exact RF.mk rfl); (focus exact RF.mk rfl); (focus exact RF.mk rfl)) | (apply dr_e; (focus exact RF.mk rfl); (focus exact RF.mk rfl); (focus exact RF.mk rfl); (focus exact RF.mk rfl)) | (apply rd_e; (focus exact xx); focus (repeat first | exact PO.nil | apply PO.zero | (apply PO.ld; (focus exact xx)))) | (apply rd_l; (focus exact xx)) | refine wh_seq ?_ | refine wh_skip ?_ | refine wh_block ?_ | refine wh_end ?_ | refine wh_exit ?_ | refine wh_ret ?_ | refine bk_norm ?_ | refine bk_exit ?_ | refine bk_ret ?_ | refine fr_exit ?_ | refine fr_ret ?_ | refine lp_exit ?_ | refine lp_ret ?_ | refine jn_exit ?_ | refine jn_ret ?_ | refine bk_other rfl ?_ | (apply wr; focus exact xx) | (apply wi; (focus exact xx); (focus exact xx); all_goals intro _; all_goals try first | contradiction | (exfalso; omega) | exact absurd trivial ‹_›) | refine wh_reg ?_ | refine wh_ife ?_ | (apply re; focus exact xx) | (apply rf; (focus exact xx); (focus exact xx); all_goals intro _; all_goals try first | contradiction | (exfalso; omega) | exact absurd trivial ‹_›) | (apply ra; (focus exact xx); (focus exact xx); intro _) | (apply r1; (focus exact xx); (focus exact xx); intro _) | (apply rl; (focus exact xx); (focus exact xx); intro _) | (apply rb; (focus exact xx); (focus exact xx); intro _) | (apply rsi; (focus exact xx); (focus exact xx); all_goals try infer_instance) | (apply rsz; (focus exact xx); (focus exact xx); all_goals try infer_instance) | (apply rt; (focus exact xx); (focus exact xx)) | (apply rso; (focus exact xx); (focus exact xx); all_goals try infer_instance) | (apply rmm; (focus exact xx); intro _) | (apply rsb; (focus exact xx); (focus exact xx)) | (apply ru; (focus exact xx); (focus exact xx)) | (apply rm; (focus exact xx); (focus exact xx); intro _) | (apply rk; (focus exact xx); (focus exact xx); intro _) | (apply rcf; (focus exact xx); (focus (apply ACF.mk; (focus exact xx); (focus exact inferInstance); (focus exact xx); (focus exact inferInstance); (focus exact xx); (focus exact rfl)))) | (apply rco; (focus exact xx); (focus (apply ACO.mk; (focus exact xx); (focus exact xx); (focus exact inferInstance); (focus exact xx); (focus exact xx))); intro _) | (apply rc; (focus exact xx); (focus exact xx)) | (apply rk'; (focus exact xx); (focus exact xx))
    refine fz ?_
    rw [showV, if_neg hr]
    rfl⟩
end Go.AM

set_option linter.unusedVariables false
set_option linter.unusedSimpArgs false
namespace Go.AM
open Go.Lib
attribute [-simp] List.length_flatten List.map_flatten List.map_take List.map_map List.flatten_append
set_option maxHeartbeats 4000000 in
instance show_Text (h : List (List Op)) : PCon T0 n.show_Text [eH h] false (okHx h) (showV h) := ⟨fun ok => by
  have b := ok.1
  have hrb : hb h ∧ ∀ o ∈ h.flatten, o.v.length ≤ 1048576 := ⟨ok.1, fun o ho => (ok.2 o ho).1⟩
  have hl := b.1
  by_cases hr : rightB h = true
  · obtain ⟨r1, r2⟩ := right_ops ok hr
    have c1 : PCon T0 n.hist_Right [eH h] false True (.bool true) := ⟨fun _ => by
      have := (hist_Right h).con hrb
      rwa [hr] at this⟩
    refine pc tabOk ?_
    repeat' first | (apply dr_fin; (focus exact xx)) | (apply dr_gt; (focus exact xx)) | (apply dr_gf; (focus exact xx); (focus first | exact .inl rfl | exact .inr rfl); focus (first | exact InD.no | (apply InD.so; (focus exact xx)))) | (apply dr_v; focus (apply DV.mk; (focus exact RF.mk rfl); (focus exact RF.mk rfl); (focus exact RF.mk rfl); (focus exact RF.mk rfl); (focus exact xx); focus (first | exact InD.no | (apply InD.so; (focus exact xx))))) | (apply dr_ve; focus (apply DVE.mk; (focus exact RF.mk rfl); (focus exact RF.mk rfl); (focus exact RF.mk rfl); (focus exact xx); focus (first | exact InD.no | (apply InD.so; (focus exact xx))))) | (apply dr_r; focus (apply DL.mk; (focus exact RF.mk rfl); (focus exact xx); (focus exact xx); focus (first | exact InD.no | (apply InD.so; (focus exact xx))))) | (apply dr_l; (focus exact RF.mk rfl); (focus exact RF.mk rfl); (focus exact RF.mk rfl); (focus exact RF.mk rfl); (focus exact RF.mk rfl)) | (apply dr_e; (focus exact RF.mk rfl); (focus exact RF.mk rfl); (focus exact RF.mk rfl); (focus exact RF.mk rfl)) | (apply rd_e; (focus exact xx); focus (repeat first | exact PO.nil | apply PO.zero | (apply PO.ld; (focus exact xx)))) | (apply rd_l; (focus exact xx)) | refine wh_seq ?_ | refine wh_skip ?_ | refine wh_block ?_ | refine wh_end ?_ | refine wh_exit ?_ | refine wh_ret ?_ | refine bk_norm ?_ | refine bk_exit ?_ | refine bk_ret ?_ | refine fr_exit ?_ | refine fr_ret ?_ | refine lp_exit ?_ | refine lp_ret ?_ | refine jn_exit ?_ | refine jn_ret ?_ | refine bk_other rfl ?_ | (apply wr; focus exact xx) | (apply wi; (focus exact xx); (focus exact xx); all_goals intro _; all_goals try first | contradiction | (exfalso; omega) | exact absurd trivial ‹_›) | refine wh_reg ?_ | refine wh_ife ?_ | (apply re; focus exact xx) | (apply rf; (focus exact xx); (focus exact xx); all_goals intro _; all_goals try first | contradiction | (exfalso; omega) | exact absurd trivial ‹_›) | (apply ra; (focus exact xx); (focus exact xx); intro _) | (apply r1; (focus exact xx); (focus exact xx); intro _) | (apply rl; (focus exact xx); (focus exact xx); intro _) | (apply rb; (focus exact xx); (focus exact xx); intro _) | (apply rsi; (focus exact xx); (focus exact xx); all_goals try infer_instance) | (apply rsz; (focus exact xx); (focus exact xx); all_goals try infer_instance) | (apply rt; (focus exact xx); (focus exact xx)) | (apply rso; (focus exact xx); (focus exact xx); all_goals try infer_instance) | (apply rmm; (focus exact xx); intro _) | (apply rsb; (focus exact xx); (focus exact xx)) | (apply ru; (focus exact xx); (focus exact xx)) | (apply rm; (focus exact xx); (focus exact xx); intro _) | (apply rk; (focus exact xx); (focus exact xx); intro _) | (apply rcf; (focus exact xx); (focus (apply ACF.mk; (focus exact xx); (focus exact inferInstance); (focus exact xx); (focus exact inferInstance); (focus exact xx); (focus exact rfl)))) | (apply rco; (focus exact xx); (focus (apply ACO.mk; (focus exact xx); (focus exact xx); (focus exact inferInstance); (focus exact xx); (focus exact xx))); intro _) | (apply rc; (focus exact xx); (focus exact xx)) | (apply rk'; (focus exact xx); (focus exact xx))
    refine rmT (by exact xx) ?_
    intro id
    repeat' first | (apply dr_fin; (focus exact xx)) | (apply dr_gt; (focus exact xx)) | (apply dr_gf; (focus exact xx); (focus first | exact .inl rfl | exact .inr rfl); focus (first | exact InD.no | (apply InD.so; (focus exact xx)))) | (apply dr_v; focus (apply DV.mk; (focus exact RF.mk rfl); (focus exact RF.mk rfl); (focus exact RF.mk rfl); (focus exact RF.mk rfl); (focus exact xx); focus (first | exact InD.no | (apply InD.so; (focus exact xx))))) | (apply dr_ve; focus (apply DVE.mk; (focus exact RF.mk rfl); (focus exact RF.mk rfl); (focus exact RF.mk rfl); (focus exact xx); focus (first | exact InD.no | (apply InD.so; (focus exact xx))))) | (apply dr_r; focus (apply DL.mk; (focus exact RF.mk rfl); (focus exact xx); (focus exact xx); focus (first | exact InD.no | (apply InD.so; (focus exact xx))))) | (apply dr_l; (focus exact RF.mk rfl); (focus exact RF.mk rfl); (focus exact RF.mk rfl); (focus exact RF.mk rfl); (focus exact RF.mk rfl)) | (apply dr_e; (focus exact RF.mk rfl); (focus exact RF.mk rfl); (focus exact RF.mk rfl); (focus exact RF.mk rfl)) | (apply rd_e; (focus exact xx); focus (repeat first | exact PO.nil | apply PO.zero | (apply PO.ld; (focus exact xx)))) | (apply rd_l; (focus exact xx)) | refine wh_seq ?_ | refine wh_skip ?_ | refine wh_block ?_ | refine wh_end ?_ | refine wh_exit ?_ | refine wh_ret ?_ | refine bk_norm ?_ | refine bk_exit ?_ | refine bk_ret ?_ | refine fr_exit ?_ | refine fr_ret ?_ | refine lp_exit ?_ | refine lp_ret ?_ | refine jn_exit ?_ | refine jn_ret ?_ | refine bk_other rfl ?_ | (apply wr; focus exact xx) | (apply wi; (focus exact xx); (focus exact xx); all_goals intro _; all_goals try first | contradiction | (exfalso; omega) | exact absurd trivial ‹_›) | refine wh_reg ?_ | refine wh_ife ?_ | (apply re; focus exact xx) | (apply rf; (focus exact xx); (focus exact xx); all_goals intro _; all_goals try first | contradiction | (exfalso; omega) | exact absurd trivial ‹_›) | (apply ra; (focus exact xx); (focus exact xx); intro _) | (apply r1; (focus exact xx); (focus exact xx); intro _) | (apply rl; (focus exact xx); (focus exact xx); intro _) | (apply rb; (focus exact xx); (focus exact xx); intro _) | (apply rsi; (focus exact xx); (focus exact xx); all_goals try infer_instance) | (apply rsz; (focus exact xx); (focus exact xx); all_goals try infer_instance) | (apply rt; (focus exact xx); (focus exact xx)) | (apply rso; (focus exact xx); (focus exact xx); all_goals try infer_instance) | (apply rmm; (focus exact xx); intro _) | (apply rsb; (focus exact xx); (focus exact xx)) | (apply ru; (focus exact xx); (focus exact xx)) | (apply rm; (focus exact xx); (focus exact xx); intro _) | (apply rk; (focus exact xx); (focus exact xx); intro _) | (apply rcf; (focus exact xx); (focus (apply ACF.mk; (focus exact xx); (focus exact inferInstance); (focus exact xx); (focus exact inferInstance); (focus exact xx); (focus exact rfl)))) | (apply rco; (focus exact xx); (focus (apply ACO.mk; (focus exact xx); (focus exact xx); (focus exact inferInstance); (focus exact xx); (focus exact xx))); intro _) | (apply rc; (focus exact xx); (focus exact xx)) | (apply rk'; (focus exact xx); (focus exact xx))
    refine wh_count h.length (fun i A L => A = [(4, .ptr id 2 0 0), (12, eH h), (13, .int .i64 (h.length : Nat)), (14, .int .i64 (i : Nat))] ∧ Bd id 68 (txT (h.take i)) L) ⟨rfl, Bd.new (.inl rfl)⟩ ?_
    rintro i A L hi ⟨rfl, hM⟩
    obtain ⟨p1, p2⟩ := part_len b r1 r2 hi 0
    have hrow := @flat_len _ h i
    repeat' first | (apply dr_fin; (focus exact xx)) | (apply dr_gt; (focus exact xx)) | (apply dr_gf; (focus exact xx); (focus first | exact .inl rfl | exact .inr rfl); focus (first | exact InD.no | (apply InD.so; (focus exact xx)))) | (apply dr_v; focus (apply DV.mk; (focus exact RF.mk rfl); (focus exact RF.mk rfl); (focus exact RF.mk rfl); (focus exact RF.mk rfl); (focus exact xx); focus (first | exact InD.no | (apply InD.so; (focus exact xx))))) | (apply dr_ve; focus (apply DVE.mk; (focus exact RF.mk rfl); (focus exact RF.mk rfl); (focus exact RF.mk rfl); (focus exact xx); focus (first | exact InD.no | (apply InD.so; (focus exact xx))))) | (apply dr_r; focus (apply DL.mk; (focus exact RF.mk rfl); (focus exact xx); (focus exact xx); focus (first | exact InD.no | (apply InD.so; (focus exact xx))))) | (apply dr_l; (focus exact RF.mk rfl); (focus exact RF.mk rfl); (focus exact RF.mk rfl); (focus exact RF.mk rfl); (focus exact RF.mk rfl)) | (apply dr_e; (focus exact RF.mk rfl); (focus exact RF.mk rfl); (focus exact RF.mk rfl); (focus exact RF.mk rfl)) | (apply rd_e; (focus exact xx); focus (repeat first | exact PO.nil | apply PO.zero | (apply PO.ld; (focus exact xx)))) | (apply rd_l; (focus exact xx)) | refine wh_seq ?_ | refine wh_skip ?_ | refine wh_block ?_ | refine wh_end ?_ | refine wh_exit ?_ | refine wh_ret ?_ | refine bk_norm ?_ | refine bk_exit ?_ | refine bk_ret ?_ | refine fr_exit ?_ | refine fr_ret ?_ | refine lp_exit ?_ | refine lp_ret ?_ | refine jn_exit ?_ | refine jn_ret ?_ | refine bk_other rfl ?_ | (apply wr; focus exact xx) | (apply wi; (focus exact xx); (focus exact xx); all_goals intro _; all_goals try first | contradiction | (exfalso; omega) | exact absurd trivial ‹_›) | refine wh_reg ?_ | refine wh_ife ?_ | (apply re; focus exact xx) | (apply rf; (focus exact xx); (focus exact xx); all_goals intro _; all_goals try first | contradiction | (exfalso; omega) | exact absurd trivial ‹_›) | (apply ra; (focus exact xx); (focus exact xx); intro _) | (apply r1; (focus exact xx); (focus exact xx); intro _) | (apply rl; (focus exact xx); (focus exact xx); intro _) | (apply rb; (focus exact xx); (focus exact xx); intro _) | (apply rsi; (focus exact xx); (focus exact xx); all_goals try infer_instance) | (apply rsz; (focus exact xx); (focus exact xx); all_goals try infer_instance) | (apply rt; (focus exact xx); (focus exact xx)) | (apply rso; (focus exact xx); (focus exact xx); all_goals try infer_instance) | (apply rmm; (focus exact xx); intro _) | (apply rsb; (focus exact xx); (focus exact xx)) | (apply ru; (focus exact xx); (focus exact xx)) | (apply rm; (focus exact xx); (focus exact xx); intro _) | (apply rk; (focus exact xx); (focus exact xx); intro _) | (apply rcf; (focus exact xx); (focus (apply ACF.mk; (focus exact xx); (focus exact inferInstance); (focus exact xx); (focus exact inferInstance); (focus exact xx); (focus exact rfl)))) | (apply rco; (focus exact xx); (focus (apply ACO.mk; (focus exact xx); (focus exact xx); (focus exact inferInstance); (focus exact xx); (focus exact xx))); intro _) | (apply rc; (focus exact xx); (focus exact xx)) | (apply rk'; (focus exact xx); (focus exact xx))
    · rename_i hlt
      have hlt' : i < h.length := by omega
      refine wh_count (nth h i).length (fun k A L => A = [(4, .ptr id 2 0 0), (12, eH h), (13, .int .i64 (h.length : Nat)), (14, .int .i64 (i : Nat)), (18, eOps (nth h i)), (19, .int .i64 ((nth h i).length : Nat)), (20, .int .i64 (k : Nat))] ∧ Bd id 68 (txT (h.take i) ++ lnT ((nth h i).take k)) L) ⟨rfl, by rw [List.take_zero, lnT, List.append_nil]; exact hM⟩ ?_
      rintro k A L hk ⟨rfl, hM⟩
      have q2 := (part_len b r1 r2 hi k).2 hlt'
      by_cases hkl : k < (nth h i).length
      · have ho := mem_row hlt' hkl
        have o1 := ok.2 _ ho
        have o2 := r2 _ ho
        have hst : ((txT (h.take i) ++ lnT ((nth h i).take k)) ++ [32]).length = (txT (h.take i) ++ lnT ((nth h i).take k)).length + 1 := by rw [List.length_append (bs := [32])]; rfl
        repeat' first | (apply dr_fin; (focus exact xx)) | (apply dr_gt; (focus exact xx)) | (apply dr_gf; (focus exact xx); (focus first | exact .inl rfl | exact .inr rfl); focus (first | exact InD.no | (apply InD.so; (focus exact xx)))) | (apply dr_v; focus (apply DV.mk; (focus exact RF.mk rfl); (focus exact RF.mk rfl); (focus exact RF.mk rfl); (focus exact RF.mk rfl); (focus exact xx); focus (first | exact InD.no | (apply InD.so; (focus exact xx))))) | (apply dr_ve; focus (apply DVE.mk; (focus exact RF.mk rfl); (focus exact RF.mk rfl); (focus exact RF.mk rfl); (focus exact xx); focus (first | exact InD.no | (apply InD.so; (focus exact xx))))) | (apply dr_r; focus (apply DL.mk; (focus exact RF.mk rfl); (focus exact xx); (focus exact xx); focus (first | exact InD.no | (apply InD.so; (focus exact xx))))) | (apply dr_l; (focus exact RF.mk rfl); (focus exact RF.mk rfl); (focus exact RF.mk rfl); (focus exact RF.mk rfl); (focus exact RF.mk rfl)) | (apply dr_e; (focus exact RF.mk rfl); (focus exact RF.mk rfl); (focus exact RF.mk rfl); (focus exact RF.mk rfl)) | (apply rd_e; (focus exact xx); focus (repeat first | exact PO.nil | apply PO.zero | (apply PO.ld; (focus exact xx)))) | (apply rd_l; (focus exact xx)) | refine wh_seq ?_ | refine wh_skip ?_ | refine wh_block ?_ | refine wh_end ?_ | refine wh_exit ?_ | refine wh_ret ?_ | refine bk_norm ?_ | refine bk_exit ?_ | refine bk_ret ?_ | refine fr_exit ?_ | refine fr_ret ?_ | refine lp_exit ?_ | refine lp_ret ?_ | refine jn_exit ?_ | refine jn_ret ?_ | refine bk_other rfl ?_ | (apply wr; focus exact xx) | (apply wi; (focus exact xx); (focus exact xx); all_goals intro _; all_goals try first | contradiction | (exfalso; omega) | exact absurd trivial ‹_›) | refine wh_reg ?_ | refine wh_ife ?_ | (apply re; focus exact xx) | (apply rf; (focus exact xx); (focus exact xx); all_goals intro _; all_goals try first | contradiction | (exfalso; omega) | exact absurd trivial ‹_›) | (apply ra; (focus exact xx); (focus exact xx); intro _) | (apply r1; (focus exact xx); (focus exact xx); intro _) | (apply rl; (focus exact xx); (focus exact xx); intro _) | (apply rb; (focus exact xx); (focus exact xx); intro _) | (apply rsi; (focus exact xx); (focus exact xx); all_goals try infer_instance) | (apply rsz; (focus exact xx); (focus exact xx); all_goals try infer_instance) | (apply rt; (focus exact xx); (focus exact xx)) | (apply rso; (focus exact xx); (focus exact xx); all_goals try infer_instance) | (apply rmm; (focus exact xx); intro _) | (apply rsb; (focus exact xx); (focus exact xx)) | (apply ru; (focus exact xx); (focus exact xx)) | (apply rm; (focus exact xx); (focus exact xx); intro _) | (apply rk; (focus exact xx); (focus exact xx); intro _) | (apply rcf; (focus exact xx); (focus (apply ACF.mk; (focus exact xx); (focus exact inferInstance); (focus exact xx); (focus exact inferInstance); (focus exact xx); (focus exact rfl)))) | (apply rco; (focus exact xx); (focus (apply ACO.mk; (focus exact xx); (focus exact xx); (focus exact inferInstance); (focus exact xx); (focus exact xx))); intro _) | (apply rc; (focus exact xx); (focus exact xx)) | (apply rk'; (focus exact xx); (focus exact xx))
        · refine rc (by exact xx) (AC.mk (by exact xx) (wb_ce [_] (c := 32) hM (by omega))) ?_
          rintro _ _ ⟨rfl, M', hM', rfl⟩
          repeat' first | (apply dr_fin; (focus exact xx)) | (apply dr_gt; (focus exact xx)) | (apply dr_gf; (focus exact xx); (focus first | exact .inl rfl | exact .inr rfl); focus (first | exact InD.no | (apply InD.so; (focus exact xx)))) | (apply dr_v; focus (apply DV.mk; (focus exact RF.mk rfl); (focus exact RF.mk rfl); (focus exact RF.mk rfl); (focus exact RF.mk rfl); (focus exact xx); focus (first | exact InD.no | (apply InD.so; (focus exact xx))))) | (apply dr_ve; focus (apply DVE.mk; (focus exact RF.mk rfl); (focus exact RF.mk rfl); (focus exact RF.mk rfl); (focus exact xx); focus (first | exact InD.no | (apply InD.so; (focus exact xx))))) | (apply dr_r; focus (apply DL.mk; (focus exact RF.mk rfl); (focus exact xx); (focus exact xx); focus (first | exact InD.no | (apply InD.so; (focus exact xx))))) | (apply dr_l; (focus exact RF.mk rfl); (focus exact RF.mk rfl); (focus exact RF.mk rfl); (focus exact RF.mk rfl); (focus exact RF.mk rfl)) | (apply dr_e; (focus exact RF.mk rfl); (focus exact RF.mk rfl); (focus exact RF.mk rfl); (focus exact RF.mk rfl)) | (apply rd_e; (focus exact xx); focus (repeat first | exact PO.nil | apply PO.zero | (apply PO.ld; (focus exact xx)))) | (apply rd_l; (focus exact xx)) | refine wh_seq ?_ | refine wh_skip ?_ | refine wh_block ?_ | refine wh_end ?_ | refine wh_exit ?_ | refine wh_ret ?_ | refine bk_norm ?_ | refine bk_exit ?_ | refine bk_ret ?_ | refine fr_exit ?_ | refine fr_ret ?_ | refine lp_exit ?_ | refine lp_ret ?_ | refine jn_exit ?_ | refine jn_ret ?_ | refine bk_other rfl ?_ | (apply wr; focus exact xx) | (apply wi; (focus exact xx); (focus exact xx); all_goals intro _; all_goals try first | contradiction | (exfalso; omega) | exact absurd trivial ‹_›) | refine wh_reg ?_ | refine wh_ife ?_ | (apply re; focus exact xx) | (apply rf; (focus exact xx); (focus exact xx); all_goals intro _; all_goals try first | contradiction | (exfalso; omega) | exact absurd trivial ‹_›) | (apply ra; (focus exact xx); (focus exact xx); intro _) | (apply r1; (focus exact xx); (focus exact xx); intro _) | (apply rl; (focus exact xx); (focus exact xx); intro _) | (apply rb; (focus exact xx); (focus exact xx); intro _) | (apply rsi; (focus exact xx); (focus exact xx); all_goals try infer_instance) | (apply rsz; (focus exact xx); (focus exact xx); all_goals try infer_instance) | (apply rt; (focus exact xx); (focus exact xx)) | (apply rso; (focus exact xx); (focus exact xx); all_goals try infer_instance) | (apply rmm; (focus exact xx); intro _) | (apply rsb; (focus exact xx); (focus exact xx)) | (apply ru; (focus exact xx); (focus exact xx)) | (apply rm; (focus exact xx); (focus exact xx); intro _) | (apply rk; (focus exact xx); (focus exact xx); intro _) | (apply rcf; (focus exact xx); (focus (apply ACF.mk; (focus exact xx); (focus exact inferInstance); (focus exact xx); (focus exact inferInstance); (focus exact xx); (focus exact rfl)))) | (apply rco; (focus exact xx); (focus (apply ACO.mk; (focus exact xx); (focus exact xx); (focus exact inferInstance); (focus exact xx); (focus exact xx))); intro _) | (apply rc; (focus exact xx); (focus exact xx)) | (apply rk'; (focus exact xx); (focus exact xx))
          refine rc (by exact xx) (AC.mk (by exact xx) (ws_ce [_] hM' (by omega))) ?_
          rintro _ _ ⟨rfl, M2, hM2, rfl⟩
          repeat' first | (apply dr_fin; (focus exact xx)) | (apply dr_gt; (focus exact xx)) | (apply dr_gf; (focus exact xx); (focus first | exact .inl rfl | exact .inr rfl); focus (first | exact InD.no | (apply InD.so; (focus exact xx)))) | (apply dr_v; focus (apply DV.mk; (focus exact RF.mk rfl); (focus exact RF.mk rfl); (focus exact RF.mk rfl); (focus exact RF.mk rfl); (focus exact xx); focus (first | exact InD.no | (apply InD.so; (focus exact xx))))) | (apply dr_ve; focus (apply DVE.mk; (focus exact RF.mk rfl); (focus exact RF.mk rfl); (focus exact RF.mk rfl); (focus exact xx); focus (first | exact InD.no | (apply InD.so; (focus exact xx))))) | (apply dr_r; focus (apply DL.mk; (focus exact RF.mk rfl); (focus exact xx); (focus exact xx); focus (first | exact InD.no | (apply InD.so; (focus exact xx))))) | (apply dr_l; (focus exact RF.mk rfl); (focus exact RF.mk rfl); (focus exact RF.mk rfl); (focus exact RF.mk rfl); (focus exact RF.mk rfl)) | (apply dr_e; (focus exact RF.mk rfl); (focus exact RF.mk rfl); (focus exact RF.mk rfl); (focus exact RF.mk rfl)) | (apply rd_e; (focus exact xx); focus (repeat first | exact PO.nil | apply PO.zero | (apply PO.ld; (focus exact xx)))) | (apply rd_l; (focus exact xx)) | refine wh_seq ?_ | refine wh_skip ?_ | refine wh_block ?_ | refine wh_end ?_ | refine wh_exit ?_ | refine wh_ret ?_ | refine bk_norm ?_ | refine bk_exit ?_ | refine bk_ret ?_ | refine fr_exit ?_ | refine fr_ret ?_ | refine lp_exit ?_ | refine lp_ret ?_ | refine jn_exit ?_ | refine jn_ret ?_ | refine bk_other rfl ?_ | (apply wr; focus exact xx) | (apply wi; (focus exact xx); (focus exact xx); all_goals intro _; all_goals try first | contradiction | (exfalso; omega) | exact absurd trivial ‹_›) | refine wh_reg ?_ | refine wh_ife ?_ | (apply re; focus exact xx) | (apply rf; (focus exact xx); (focus exact xx); all_goals intro _; all_goals try first | contradiction | (exfalso; omega) | exact absurd trivial ‹_›) | (apply ra; (focus exact xx); (focus exact xx); intro _) | (apply r1; (focus exact xx); (focus exact xx); intro _) | (apply rl; (focus exact xx); (focus exact xx); intro _) | (apply rb; (focus exact xx); (focus exact xx); intro _) | (apply rsi; (focus exact xx); (focus exact xx); all_goals try infer_instance) | (apply rsz; (focus exact xx); (focus exact xx); all_goals try infer_instance) | (apply rt; (focus exact xx); (focus exact xx)) | (apply rso; (focus exact xx); (focus exact xx); all_goals try infer_instance) | (apply rmm; (focus exact xx); intro _) | (apply rsb; (focus exact xx); (focus exact xx)) | (apply ru; (focus exact xx); (focus exact xx)) | (apply rm; (focus exact xx); (focus exact xx); intro _) | (apply rk; (focus exact xx); (focus exact xx); intro _) | (apply rcf; (focus exact xx); (focus (apply ACF.mk; (focus exact xx); (focus exact inferInstance); (focus exact xx); (focus exact inferInstance); (focus exact xx); (focus exact rfl)))) | (apply rco; (focus exact xx); (focus (apply ACO.mk; (focus exact xx); (focus exact xx); (focus exact inferInstance); (focus exact xx); (focus exact xx))); intro _) | (apply rc; (focus exact xx); (focus exact xx)) | (apply rk'; (focus exact xx); (focus exact xx))
          refine fr_next (by omega) (List.sublist_cons_self _ _) ⟨rfl, ?_⟩
          rw [ln_step hkl, if_pos (by omega)]
          simpa using hM2
        · refine rc (by exact xx) (AC.mk (by exact xx) (ws_ce [_] hM (by omega))) ?_
          rintro _ _ ⟨rfl, M2, hM2, rfl⟩
          repeat' first | (apply dr_fin; (focus exact xx)) | (apply dr_gt; (focus exact xx)) | (apply dr_gf; (focus exact xx); (focus first | exact .inl rfl | exact .inr rfl); focus (first | exact InD.no | (apply InD.so; (focus exact xx)))) | (apply dr_v; focus (apply DV.mk; (focus exact RF.mk rfl); (focus exact RF.mk rfl); (focus exact RF.mk rfl); (focus exact RF.mk rfl); (focus exact xx); focus (first | exact InD.no | (apply InD.so; (focus exact xx))))) | (apply dr_ve; focus (apply DVE.mk; (focus exact RF.mk rfl); (focus exact RF.mk rfl); (focus exact RF.mk rfl); (focus exact xx); focus (first | exact InD.no | (apply InD.so; (focus exact xx))))) | (apply dr_r; focus (apply DL.mk; (focus exact RF.mk rfl); (focus exact xx); (focus exact xx); focus (first | exact InD.no | (apply InD.so; (focus exact xx))))) | (apply dr_l; (focus exact RF.mk rfl); (focus exact RF.mk rfl); (focus exact RF.mk rfl); (focus exact RF.mk rfl); (focus exact RF.mk rfl)) | (apply dr_e; (focus exact RF.mk rfl); (focus exact RF.mk rfl); (focus exact RF.mk rfl); (focus exact RF.mk rfl)) | (apply rd_e; (focus exact xx); focus (repeat first | exact PO.nil | apply PO.zero | (apply PO.ld; (focus exact xx)))) | (apply rd_l; (focus exact xx)) | refine wh_seq ?_ | refine wh_skip ?_ | refine wh_block ?_ | refine wh_end ?_ | refine wh_exit ?_ | refine wh_ret ?_ | refine bk_norm ?_ | refine bk_exit ?_ | refine bk_ret ?_ | refine fr_exit ?_ | refine fr_ret ?_ | refine lp_exit ?_ | refine lp_ret ?_ | refine jn_exit ?_ | refine jn_ret ?_ | refine bk_other rfl ?_ | (apply wr; focus exact xx) | (apply wi; (focus exact xx); (focus exact xx); all_goals intro _; all_goals try first | contradiction | (exfalso; omega) | exact absurd trivial ‹_›) | refine wh_reg ?_ | refine wh_ife ?_ | (apply re; focus exact xx) | (apply rf; (focus exact xx); (focus exact xx); all_goals intro _; all_goals try first | contradiction | (exfalso; omega) | exact absurd trivial ‹_›) | (apply ra; (focus exact xx); (focus exact xx); intro _) | (apply r1; (focus exact xx); (focus exact xx); intro _) | (apply rl; (focus exact xx); (focus exact xx); intro _) | (apply rb; (focus exact xx); (focus exact xx); intro _) | (apply rsi; (focus exact xx); (focus exact xx); all_goals try infer_instance) | (apply rsz; (focus exact xx); (focus exact xx); all_goals try infer_instance) | (apply rt; (focus exact xx); (focus exact xx)) | (apply rso; (focus exact xx); (focus exact xx); all_goals try infer_instance) | (apply rmm; (focus exact xx); intro _) | (apply rsb; (focus exact xx); (focus exact xx)) | (apply ru; (focus exact xx); (focus exact xx)) | (apply rm; (focus exact xx); (focus exact xx); intro _) | (apply rk; (focus exact xx); (focus exact xx); intro _) | (apply rcf; (focus exact xx); (focus (apply ACF.mk; (focus exact xx); (focus exact inferInstance); (focus exact xx); (focus exact inferInstance); (focus exact xx); (focus exact rfl)))) | (apply rco; (focus exact xx); (focus (apply ACO.mk; (focus exact xx); (focus exact xx); (focus exact inferInstance); (focus exact xx); (focus exact xx))); intro _) | (apply rc; (focus exact xx); (focus exact xx)) | (apply rk'; (focus exact xx); (focus exact xx))
          refine fr_next (by omega) (List.sublist_cons_self _ _) ⟨rfl, ?_⟩
          rw [ln_step hkl, if_neg (by omega)]
          simpa using hM2
      · repeat' first | (apply dr_fin; (focus exact xx)) | (apply dr_gt; (focus exact xx)) | (apply dr_gf; (focus exact xx); (focus first | exact .inl rfl | exact .inr rfl); focus (first | exact InD.no | (apply InD.so; (focus exact xx)))) | (apply dr_v; focus (apply DV.mk; (focus exact RF.mk rfl); (focus exact RF.mk rfl); (focus exact RF.mk rfl); (focus exact RF.mk rfl); (focus exact xx); focus (first | exact InD.no | (apply InD.so; (focus exact xx))))) | (apply dr_ve; focus (apply DVE.mk; (focus exact RF.mk rfl); (focus exact RF.mk rfl); (focus exact RF.mk rfl); (focus exact xx); focus (first | exact InD.no | (apply InD.so; (focus exact xx))))) | (apply dr_r; focus (apply DL.mk; (focus exact RF.mk rfl); (focus exact xx); (focus exact xx); focus (first | exact InD.no | (apply InD.so; (focus exact xx))))) | (apply dr_l; (focus exact RF.mk rfl); (focus exact RF.mk rfl); (focus exact RF.mk rfl); (focus exact RF.mk rfl); (focus exact RF.mk rfl)) | (apply dr_e; (focus exact RF.mk rfl); (focus exact RF.mk rfl); (focus exact RF.mk rfl); (focus exact RF.mk rfl)) | (apply rd_e; (focus exact xx); focus (repeat first | exact PO.nil | apply PO.zero | (apply PO.ld; (focus exact xx)))) | (apply rd_l; (focus exact xx)) | refine wh_seq ?_ | refine wh_skip ?_ | refine wh_block ?_ | refine wh_end ?_ | refine wh_exit ?_ | refine wh_ret ?_ | refine bk_norm ?_ | refine bk_exit ?_ | refine bk_ret ?_ | refine fr_exit ?_ | refine fr_ret ?_ | refine lp_exit ?_ | refine lp_ret ?_ | refine jn_exit ?_ | refine jn_ret ?_ | refine bk_other rfl ?_ | (apply wr; focus exact xx) | (apply wi; (focus exact xx); (focus exact xx); all_goals intro _; all_goals try first | contradiction | (exfalso; omega) | exact absurd trivial ‹_›) | refine wh_reg ?_ | refine wh_ife ?_ | (apply re; focus exact xx) | (apply rf; (focus exact xx); (focus exact xx); all_goals intro _; all_goals try first | contradiction | (exfalso; omega) | exact absurd trivial ‹_›) | (apply ra; (focus exact xx); (focus exact xx); intro _) | (apply r1; (focus exact xx); (focus exact xx); intro _) | (apply rl; (focus exact xx); (focus exact xx); intro _) | (apply rb; (focus exact xx); (focus exact xx); intro _) | (apply rsi; (focus exact xx); (focus exact xx); all_goals try infer_instance) | (apply rsz; (focus exact xx); (focus exact xx); all_goals try infer_instance) | (apply rt; (focus exact xx); (focus exact xx)) | (apply rso; (focus exact xx); (focus exact xx); all_goals try infer_instance) | (apply rmm; (focus exact xx); intro _) | (apply rsb; (focus exact xx); (focus exact xx)) | (apply ru; (focus exact xx); (focus exact xx)) | (apply rm; (focus exact xx); (focus exact xx); intro _) | (apply rk; (focus exact xx); (focus exact xx); intro _) | (apply rcf; (focus exact xx); (focus (apply ACF.mk; (focus exact xx); (focus exact inferInstance); (focus exact xx); (focus exact inferInstance); (focus exact xx); (focus exact rfl)))) | (apply rco; (focus exact xx); (focus (apply ACO.mk; (focus exact xx); (focus exact xx); (focus exact inferInstance); (focus exact xx); (focus exact xx))); intro _) | (apply rc; (focus exact xx); (focus exact xx)) | (apply rk'; (focus exact xx); (focus exact xx))
        refine rc (by exact xx) (AC.mk (by exact xx) (wb_ce [] (c := 10) hM (by omega))) ?_
        rintro _ _ ⟨rfl, M', hM', rfl⟩
        repeat' first | (apply dr_fin; (focus exact xx)) | (apply dr_gt; (focus exact xx)) | (apply dr_gf; (focus exact xx); (focus first | exact .inl rfl | exact .inr rfl); focus (first | exact InD.no | (apply InD.so; (focus exact xx)))) | (apply dr_v; focus (apply DV.mk; (focus exact RF.mk rfl); (focus exact RF.mk rfl); (focus exact RF.mk rfl); (focus exact RF.mk rfl); (focus exact xx); focus (first | exact InD.no | (apply InD.so; (focus exact xx))))) | (apply dr_ve; focus (apply DVE.mk; (focus exact RF.mk rfl); (focus exact RF.mk rfl); (focus exact RF.mk rfl); (focus exact xx); focus (first | exact InD.no | (apply InD.so; (focus exact xx))))) | (apply dr_r; focus (apply DL.mk; (focus exact RF.mk rfl); (focus exact xx); (focus exact xx); focus (first | exact InD.no | (apply InD.so; (focus exact xx))))) | (apply dr_l; (focus exact RF.mk rfl); (focus exact RF.mk rfl); (focus exact RF.mk rfl); (focus exact RF.mk rfl); (focus exact RF.mk rfl)) | (apply dr_e; (focus exact RF.mk rfl); (focus exact RF.mk rfl); (focus exact RF.mk rfl); (focus exact RF.mk rfl)) | (apply rd_e; (focus exact xx); focus (repeat first | exact PO.nil | apply PO.zero | (apply PO.ld; (focus exact xx)))) | (apply rd_l; (focus exact xx)) | refine wh_seq ?_ | refine wh_skip ?_ | refine wh_block ?_ | refine wh_end ?_ | refine wh_exit ?_ | refine wh_ret ?_ | refine bk_norm ?_ | refine bk_exit ?_ | refine bk_ret ?_ | refine fr_exit ?_ | refine fr_ret ?_ | refine lp_exit ?_ | refine lp_ret ?_ | refine jn_exit ?_ | refine jn_ret ?_ | refine bk_other rfl ?_ | (apply wr; focus exact xx) | (apply wi; (focus exact xx); (focus exact xx); all_goals intro _; all_goals try first | contradiction | (exfalso; omega) | exact absurd trivial ‹_›) | refine wh_reg ?_ | refine wh_ife ?_ | (apply re; focus exact xx) | (apply rf; (focus exact xx); (focus exact xx); all_goals intro _; all_goals try first | contradiction | (exfalso; omega) | exact absurd trivial ‹_›) | (apply ra; (focus exact xx); (focus exact xx); intro _) | (apply r1; (focus exact xx); (focus exact xx); intro _) | (apply rl; (focus exact xx); (focus exact xx); intro _) | (apply rb; (focus exact xx); (focus exact xx); intro _) | (apply rsi; (focus exact xx); (focus exact xx); all_goals try infer_instance) | (apply rsz; (focus exact xx); (focus exact xx); all_goals try infer_instance) | (apply rt; (focus exact xx); (focus exact xx)) | (apply rso; (focus exact xx); (focus exact xx); all_goals try infer_instance) | (apply rmm; (focus exact xx); intro _) | (apply rsb; (focus exact xx); (focus exact xx)) | (apply ru; (focus exact xx); (focus exact xx)) | (apply rm; (focus exact xx); (focus exact xx); intro _) | (apply rk; (focus exact xx); (focus exact xx); intro _) | (apply rcf; (focus exact xx); (focus (apply ACF.mk; (focus exact xx); (focus exact inferInstance); (focus exact xx); (focus exact inferInstance); (focus exact xx); (focus exact rfl)))) | (apply rco; (focus exact xx); (focus (apply ACO.mk; (focus exact xx); (focus exact xx); (focus exact inferInstance); (focus exact xx); (focus exact xx))); intro _) | (apply rc; (focus exact xx); (focus exact xx)) | (apply rk'; (focus exact xx); (focus exact xx))
        refine fr_next (by omega) sbc ⟨rfl, ?_⟩
        rw [tx_step hlt', show (nth h i) = (nth h i).take k by rw [show k = (nth h i).length by omega, List.take_length]]
        exact hM'
    · refine rc (by exact xx) (AC.mk (by exact xx) (st_ce [] hM (by omega))) ?_
      rintro _ _ ⟨rfl, rfl⟩
      repeat' first | (apply dr_fin; (focus exact xx)) | (apply dr_gt; (focus exact xx)) | (apply dr_gf; (focus exact xx); (focus first | exact .inl rfl | exact .inr rfl); focus (first | exact InD.no | (apply InD.so; (focus exact xx)))) | (apply dr_v; focus (apply DV.mk; (focus exact RF.mk rfl); (focus exact RF.mk rfl); (focus exact RF.mk rfl); (focus exact RF.mk rfl); (focus exact xx); focus (first | exact InD.no | (apply InD.so; (focus exact xx))))) | (apply dr_ve; focus (apply DVE.mk; (focus exact RF.mk rfl); (focus exact RF.mk rfl); (focus exact RF.mk rfl); (focus exact xx); focus (first | exact InD.no | (apply InD.so; (focus exact xx))))) | (apply dr_r; focus (apply DL.mk; (focus exact RF.mk rfl); (focus exact xx); (focus exact xx); focus (first | exact InD.no | (apply InD.so; (focus exact xx))))) | (apply dr_l; (focus exact RF.mk rfl); (focus exact RF.mk rfl); (focus exact RF.mk rfl); (focus exact RF.mk rfl); (focus exact RF.mk rfl)) | (apply dr_e; (focus exact RF.mk rfl); (focus exact RF.mk rfl); (focus exact RF.mk rfl); (focus exact RF.mk rfl)) | (apply rd_e; (focus exact xx); focus (repeat first | exact PO.nil | apply PO.zero | (apply PO.ld; (focus exact xx)))) | (apply rd_l; (focus exact xx)) | refine wh_seq ?_ | refine wh_skip ?_ | refine wh_block ?_ | refine wh_end ?_ | refine wh_exit ?_ | refine wh_ret ?_ | refine bk_norm ?_ | refine bk_exit ?_ | refine bk_ret ?_ | refine fr_exit ?_ | refine fr_ret ?_ | refine lp_exit ?_ | refine lp_ret ?_ | refine jn_exit ?_ | refine jn_ret ?_ | refine bk_other rfl ?_ | (apply wr; focus exact xx) | (apply wi; (focus exact xx); (focus exact xx); all_goals intro _; all_goals try first | contradiction | (exfalso; omega) | exact absurd trivial ‹_›) | refine wh_reg ?_ | refine wh_ife ?_ | (apply re; focus exact xx) | (apply rf; (focus exact xx); (focus exact xx); all_goals intro _; all_goals try first | contradiction | (exfalso; omega) | exact absurd trivial ‹_›) | (apply ra; (focus exact xx); (focus exact xx); intro _) | (apply r1; (focus exact xx); (focus exact xx); intro _) | (apply rl; (focus exact xx); (focus exact xx); intro _) | (apply rb; (focus exact xx); (focus exact xx); intro _) | (apply rsi; (focus exact xx); (focus exact xx); all_goals try infer_instance) | (apply rsz; (focus exact xx); (focus exact xx); all_goals try infer_instance) | (apply rt; (focus exact xx); (focus exact xx)) | (apply rso; (focus exact xx); (focus exact xx); all_goals try infer_instance) | (apply rmm; (focus exact xx); intro _) | (apply rsb; (focus exact xx); (focus exact xx)) | (apply ru; (focus exact xx); (focus exact xx)) | (apply rm; (focus exact xx); (focus exact xx); intro _) | (apply rk; (focus exact xx); (focus exact xx); intro _) | (apply rcf; (focus exact xx); (focus (apply ACF.mk; (focus exact xx); (focus exact inferInstance); (focus exact xx); (focus exact inferInstance); (focus exact xx); (focus exact rfl)))) | (apply rco; (focus exact xx); (focus (apply ACO.mk; (focus exact xx); (focus exact xx); (focus exact inferInstance); (focus exact xx); (focus exact xx))); intro _) | (apply rc; (focus exact xx); (focus exact xx)) | (apply rk'; (focus exact xx); (focus exact xx))
      refine fz ?_
      rw [showV, if_pos hr, show i = h.length by omega, List.take_length]
      rfl
  · have c1 : PCon T0 n.hist_Right [eH h] false True (.bool false) := ⟨fun _ => by
      have := (hist_Right h).con hrb
      rwa [show rightB h = false by simpa using hr] at this⟩
    refine pc tabOk ?_
    repeat' first | (apply dr_fin; (focus exact xx)) | (apply dr_gt; (focus exact xx)) | (apply dr_gf; (focus exact xx); (focus first | exact .inl rfl | exact .inr rfl); focus (first | exact InD.no | (apply InD.so; (focus exact xx)))) | (apply dr_v; focus (apply DV.mk; (focus exact RF.mk rfl); (focus exact RF.mk rfl); (focus exact RF.mk rfl); (focus exact RF.mk rfl); (focus exact xx); focus (first | exact InD.no | (apply InD.so; (focus exact xx))))) | (apply dr_ve; focus (apply DVE.mk; (focus exact RF.mk rfl); (focus exact RF.mk rfl); (focus exact RF.mk rfl); (focus exact xx); focus (first | exact InD.no | (apply InD.so; (focus exact xx))))) | (apply dr_r; focus (apply DL.mk; (focus exact RF.mk rfl); (focus exact xx); (focus exact xx); focus (first | exact InD.no | (apply InD.so; (focus exact xx))))) | (apply dr_l; (focus exact RF.mk rfl); (focus exact RF.mk rfl); (focus exact RF.mk rfl); (focus exact RF.mk rfl); (focus exact RF.mk rfl)) | (apply dr_e; (focus exact RF.mk rfl); (focus exact RF.mk rfl); (focus exact RF.mk rfl); (focus exact RF.mk rfl)) | (apply rd_e; (focus exact xx); focus (repeat first | exact PO.nil | apply PO.zero | (apply PO.ld; (focus exact xx)))) | (apply rd_l; (focus exact xx)) | refine wh_seq ?_ | refine wh_skip ?_ | refine wh_block ?_ | refine wh_end ?_ | refine wh_exit ?_ | refine wh_ret ?_ | refine bk_norm ?_ | refine bk_exit ?_ | refine bk_ret ?_ | refine fr_exit ?_ | refine fr_ret ?_ | refine lp_exit ?_ | refine lp_ret ?_ | refine jn_exit ?_ | refine jn_ret ?_ | refine bk_other rfl ?_ | (apply wr; focus exact xx) | (apply wi; (focus exact xx); (focus exact xx); all_goals intro _; all_goals try first | contradiction | (exfalso; omega) | exact absurd trivial ‹_›) | refine wh_reg ?_ | refine wh_ife ?_ | (apply re; focus exact xx) | (apply rf; (focus exact xx); (focus exact xx); all_goals intro _; all_goals try first | contradiction | (exfalso; omega) | exact absurd trivial ‹_›) | (apply ra; (focus exact xx); (focus exact xx); intro _) | (apply r1; (focus exact xx); (focus exact xx); intro _) | (apply rl; (focus exact xx); (focus exact xx); intro _) | (apply rb; (focus exact xx); (focus exact xx); intro _) | (apply rsi; (focus exact xx); (focus exact xx); all_goals try infer_instance) | (apply rsz; (focus exact xx); (focus exact xx); all_goals try infer_instance) | (apply rt; (focus exact xx); (focus exact xx)) | (apply rso; (focus exact xx); (focus exact xx); all_goals try infer_instance) | (apply rmm; (focus exact xx); intro _) | (apply rsb; (focus exact xx); (focus exact xx)) | (apply ru; (focus exact xx); (focus exact xx)) | (apply rm; (focus exact xx); (focus exact xx); intro _) | (apply rk; (focus exact xx); (focus exact xx); intro _) | (apply rcf; (focus exact xx); (focus (apply ACF.mk; (focus exact xx); (focus exact inferInstance); (focus exact xx); (focus exact inferInstance); (focus exact xx); (focus exact rfl)))) | (apply rco; (focus exact xx); (focus (apply ACO.mk; (focus exact xx); (focus exact xx); (focus exact inferInstance); (focus exact xx); (focus exact xx))); intro _) | (apply rc; (focus exact xx); (focus exact xx)) | (apply rk'; (focus exact xx); (focus exact xx))
    refine fz ?_
    rw [showV, if_neg hr]
    rfl⟩
end Go.AM

