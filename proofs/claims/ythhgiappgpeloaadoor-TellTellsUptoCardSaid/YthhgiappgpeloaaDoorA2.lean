/- Part A2 of the proof. -/
import Derived.Test.YthhgiappgpeloaaDoorA1
import Derived.LoopN
import Derived.Sort.Grow
import Derived.Lib.LaidTab
import Derived.Below
import Derived.Laws.Tables
/- Effects, calls among them; one operation of a region; a region in order. -/
set_option linter.unusedVariables false
set_option linter.unusedSimpArgs false
namespace Go.AM
open Go.RowKit

/-- A function that answers as it is said, whatever the heap and the world. -/
def CallOK (P : Program) (call : CallF) : Prop := ∀ f args H v H', call f args H = some (v, H') → (canCall P f = true ∧ H.length ≤ H'.length) ∧ ∀ (μ : Mu) (S : Nat → Prop) (w : World) (cargs : Array Value), Inv μ S H w → VRels μ S w args cargs.toList →
  Calls P f cargs w fun e w' => ∃ cv μ' S', e = .returned cv ∧ VRel μ' S' w' v cv ∧ Inv μ' S' H' w' ∧ Ext μ S H w μ' S' H' w'

section
variable {P : Program} {μ : Mu} {S : Nat → Prop} {H : Heap} {w : World} {call : CallF}

theorem relO_of (L : LaidOK S w) {sl : List V} {a : Act} (h : VRels μ S w sl a.tmps.toList) (xs : List Operand) : RelO μ S w (ev sl) a.eval xs := by
  intro x _ y hy
  cases x with
  | tmp t =>
    simp only [compX, Option.some.injEq] at hy; subst hy
    simp only [ev, Act.eval, List.getD]
    cases hs : sl[t]? with
    | none => exact .undef _
    | some v =>
      have := h.get t v hs
      simpa using this
  | const z =>
    simp only [compX, Option.map_eq_some_iff] at hy
    obtain ⟨v, hv, rfl⟩ := hy
    exact absv_rel hv
  | func f =>
    simp only [compX, Option.some.injEq] at hy; subst hy
    exact .fn f [] [] #[] #[] rfl (fun j v hj => by simp at hj) rfl (fun j v hj => by simp at hj)
  | global g =>
    simp only [compX, Option.map_eq_some_iff] at hy
    obtain ⟨cs, hg, rfl⟩ := hy
    exact laid_rel L hg
theorem put_rel {sl : List V} {a : Act} (h : VRels μ S w sl a.tmps.toList) (d : Option Nat) {v : V} {x : Value} (hv : VRel μ S w v x) : VRels μ S w (putD sl d v) (a.put d x).tmps.toList := by
  cases d with
  | none => exact h
  | some i =>
    simp only [putD, Act.put, Array.toList_setIfInBounds]
    exact h.set hv i
theorem enter_call {f : Nat} (hf : canCall P f = true) (args : Array Value) (w' : World) : (callFunc f args).run P w' = .ok (.enter f args) w' := by
  unfold canCall at hf
  split at hf
  · rename_i fn hfn
    simp only [Bool.and_eq_true, Bool.not_eq_true'] at hf
    have hb : fn.body.isNone = false := by cases h : fn.body <;> simp [h] at hf ⊢
    simp only [callFunc, Sem.run_bind, run_program, Result.andThen_ok, hfn]
    simp only [hf.2, hb, Bool.false_eq_true, if_false, Sem.run_pure]
  · cases hf
theorem storeAt_len {n : Nat} {a v : V} {H' : Heap} (h : storeAt H n a v = some H') : H'.length = H.length := by
  unfold storeAt at h
  split at h
  · simp only [Option.bind_eq_bind, Option.bind_eq_some_iff] at h
    obtain ⟨⟨fl, xs⟩, -, u, -, h⟩ := h
    split at h
    · injection h with h; subst h; simp
    · cases h
  · cases h
theorem appendTo_len {s : Nat} {fl : Bool} {by' : Nat} {a : V} {ys : List V} {v : V} {H' : Heap} (h : appendTo H s fl by' a ys = some (v, H')) : H.length ≤ H'.length := by
  unfold appendTo at h
  split at h
  · split at h <;> first
      | (injection h with h; injection h with h1 h2; subst h2; exact Nat.le_refl _)
      | cases h
  · split at h
    · split at h
      · split at h
        · injection h with h; injection h with h1 h2; subst h2; simp
        · cases h
      · simp only [Option.bind_eq_bind, Option.bind_eq_some_iff] at h
        obtain ⟨⟨fl', xs⟩, -, h⟩ := h
        dsimp only at h
        split at h
        · injection h with h; injection h with h1 h2; subst h2; simp
        · cases h
      · cases h
    · cases h
theorem stepE_len (C : ∀ f args H v H', call f args H = some (v, H') → H.length ≤ H'.length) {ρ : Opd → V} {eo : EOp} {v : V} {H' : Heap} (h : stepE call ρ H eo = some (v, H')) : H.length ≤ H'.length := by
  cases eo with
  | store n a x =>
    simp only [stepE, Option.map_eq_some_iff, Prod.mk.injEq] at h
    obtain ⟨H1, h1, -, rfl⟩ := h
    exact Nat.le_of_eq (storeAt_len h1).symm
  | app s fl b x y =>
    simp only [stepE, Option.bind_eq_bind, Option.bind_eq_some_iff] at h
    obtain ⟨ys, -, h⟩ := h
    exact appendTo_len h
  | copy s x y =>
    simp only [stepE] at h
    split at h
    · simp only [Option.bind_eq_bind, Option.bind_eq_some_iff] at h
      obtain ⟨ys, -, ⟨fl, xs⟩, -, h⟩ := h
      dsimp only at h
      split at h
      · injection h with h; injection h with h1 h2; subst h2; simp
      · cases h
    · cases h
  | clear s z x =>
    simp only [stepE] at h
    split at h
    · simp only [Option.bind_eq_bind, Option.bind_eq_some_iff] at h
      obtain ⟨⟨fl, xs⟩, -, h⟩ := h
      dsimp only at h
      split at h
      · injection h with h; injection h with h1 h2; subst h2; simp
      · cases h
    · injection h with h; injection h with h1 h2; subst h2; exact Nat.le_refl _
    · cases h
  | mup kt m k x =>
    simp only [stepE] at h
    split at h
    · split at h
      · split at h
        · injection h with h; injection h with h1 h2; subst h2; simp
        · cases h
      · cases h
    · cases h
  | call f args => exact C _ _ _ _ _ h
  | callv g args =>
    simp only [stepE] at h
    split at h
    · exact C _ _ _ _ _ h
    · cases h
  | s2b x =>
    simp only [stepE] at h
    split at h
    · injection h with h; injection h with h1 h2; subst h2; exact Nat.le_refl _
    · cases h
theorem stepAO_len (C : ∀ f args H v H', call f args H = some (v, H') → H.length ≤ H'.length) {o : AO} {st st' : St} (h : stepAO call o st = some st') : st.2.length ≤ st'.2.length := by
  unfold stepAO at h
  split at h
  · simp only [Option.map_eq_some_iff] at h
    obtain ⟨⟨v, H1⟩, h1, rfl⟩ := h
    cases hop : o.op with
    | p po => rw [hop] at h1; simp only [stepA, Option.map_eq_some_iff, Prod.mk.injEq] at h1; obtain ⟨_, -, -, e⟩ := h1; rw [← e]; exact Nat.le_refl _
    | r ro => rw [hop] at h1; simp only [stepA, Option.map_eq_some_iff, Prod.mk.injEq] at h1; obtain ⟨_, -, -, e⟩ := h1; rw [← e]; exact Nat.le_refl _
    | l lo => rw [hop] at h1; simp only [stepA, Option.map_eq_some_iff, Prod.mk.injEq] at h1; obtain ⟨_, -, -, e⟩ := h1; rw [← e]; simp
    | e eo => rw [hop] at h1; exact stepE_len C h1
  · injection h with h; subst h; exact Nat.le_refl _
  · cases h
theorem E_sound (C : CallOK P call) (I : Inv μ S H w) {o : Oper} {eo : EOp} (hc : compOp P o = some (.e eo)) {ρ : Opd → V} {a : Act} (hρ : RelO μ S w ρ a.eval o.op.operands.toList) {v : V} {H' : Heap} (h : stepE call ρ H eo = some (v, H'))
    {next : Act → World → Prop} {Q : Exit → Act → World → Prop} (hk : ∀ cv μ' S' w', VRel μ' S' w' v cv → Inv μ' S' H' w' → Ext μ S H w μ' S' H' w' → next (a.put o.dst cv) w') : o.wp P a w next Q := by
  unfold Oper.wp
  have one : ∀ {x : Operand} {y : Opd}, compX x = some y → x ∈ o.op.operands.toList → VRel μ S w (ρ y) (a.eval x) := fun hx hm => hρ _ hm _ hx
  have val : ∀ {s : Sem Value} {cv : Value} {w' : World}, s.run P w = .ok cv w' → (execOp a.eval o = do pure (.value (← s))) → (execOp a.eval o).run P w = .ok (.value cv) w' := by
    intro s cv w' hs he
    rw [he]
    simp only [Sem.run_bind, hs, Result.andThen_ok, Sem.run_pure]
  have unit : ∀ {s : Sem Unit} {w' : World}, s.run P w = .ok () w' → (execOp a.eval o = do s; pure .skip) → (execOp a.eval o).run P w = .ok .skip w' := by
    intro s w' hs he
    rw [he]
    simp only [Sem.run_bind, hs, Result.andThen_ok, Sem.run_pure]
  have und : ∀ {μ' : Mu} {S' : Nat → Prop} {w' : World}, VRel μ' S' w' (.tup []) undef := .tup [] #[] rfl (fun j v hj => by simp at hj)
  unfold compOp at hc
  split at hc
  case h_9 t ad x hop =>
    simp only [Option.bind_eq_some_iff, Option.map_eq_some_iff, AOp.e.injEq] at hc
    obtain ⟨s, hs, a', ha', x', hx', rfl⟩ := hc
    simp only [stepE, Option.map_eq_some_iff, Prod.mk.injEq] at h
    obtain ⟨H1, h1, rfl, rfl⟩ := h
    obtain ⟨w', r1, r2, r3⟩ := store_sound (P := P) I hs (one ha' (by simp [hop, Op.operands])) (one hx' (by simp [hop, Op.operands])) h1
    rw [unit r1 (by simp only [execOp, hop])]
    exact hk undef μ S w' und r2 r3
  case h_13 src dst x hop =>
    split at hc
    · simp [Option.map_eq_some_iff] at hc
    · rename_i e hs hd
      split at hc
      · rename_i he
        simp only [Option.map_eq_some_iff, AOp.e.injEq] at hc
        obtain ⟨y, hy, rfl⟩ := hc
        have rx := one hy (by simp [hop, Op.operands])
        simp only [stepE] at h
        split at h
        · rename_i b hb
          simp only [Option.some.injEq, Prod.mk.injEq] at h
          obtain ⟨rfl, rfl⟩ := h
          rw [hb] at rx
          obtain ⟨s, hx, rfl⟩ := rx.str_inv
          obtain ⟨cv, S', w', r1, r2, r3, r4⟩ := s2b_sound I hs hd he s
          rw [val r1 (by simp only [execOp, hop, hx])]
          exact hk cv μ S' w' r2 r3 r4
        · cases h
      · cases hc
    · split at hc <;> simp [Option.map_eq_some_iff] at hc
    · cases hc
  case h_24 t m k x hop =>
    split at hc
    · rename_i kt et hu
      simp only [Option.bind_eq_some_iff, Option.map_eq_some_iff, AOp.e.injEq] at hc
      obtain ⟨kk, hkk, m', hm', k', hk', x', hx', rfl⟩ := hc
      simp only [stepE] at h
      split at h
      · rename_i id hid
        split at h
        · rename_i kt' es hes
          split at h
          · rename_i hcond
            obtain ⟨c1, c2⟩ := hcond
            subst c1
            simp only [Bool.and_eq_true] at c2
            simp only [Option.some.injEq, Prod.mk.injEq] at h
            obtain ⟨rfl, rfl⟩ := h
            have rm := one hm' (by simp [hop, Op.operands])
            rw [hid] at rm
            obtain ⟨w', r1, r2, r3⟩ := mup_sound (P := P) I hu hkk hes rm (one hk' (by simp [hop, Op.operands])) (one hx' (by simp [hop, Op.operands])) c2.1 c2.2
            rw [unit r1 (by simp only [execOp, hop])]
            exact hk undef μ S w' und r2 r3
          · cases h
        · cases h
      · cases h
    · cases hc
  case h_26 c hop =>
    unfold compCall at hc
    split at hc
    · rename_i f hf
      split at hc
      · rename_i hcan
        simp only [Option.map_eq_some_iff, AOp.e.injEq] at hc
        obtain ⟨l, hl, rfl⟩ := hc
        simp only [stepE] at h
        have rl := compXs_rel hl (ρ := ρ) (cρ := a.eval) (fun x hx y hy => one hy (by simp [hop, Op.operands, Call.operands, hf]; exact .inr (by simpa using hx)))
        have hrun : (execOp a.eval o).run P w = .ok (.enter f (c.args.map a.eval)) w := by
          simp only [execOp, hop, resolve, hf, Act.eval, Deferred.ofValue, Sem.run_bind, Sem.run_pure, Result.andThen_ok, invoke]
          rw [enter_call hcan]
          simp
        rw [hrun]
        show Calls P f _ w _
        refine ((C f _ H v H' h).2 μ S w _ I (by simpa using rl)).mono ?_
        rintro e w' ⟨cv, μ', S', rfl, r1, r2, r3⟩
        exact hk cv μ' S' w' r1 r2 r3
      · cases hc
    · rename_i g hne hg
      simp only [Option.bind_eq_some_iff, Option.map_eq_some_iff, AOp.e.injEq] at hc
      obtain ⟨g', hg', l, hl, rfl⟩ := hc
      simp only [stepE] at h
      split at h
      · rename_i f pre caps hfc
        have rl := compXs_rel hl (ρ := ρ) (cρ := a.eval) (fun x hx y hy => one hy (by simp [hop, Op.operands, Call.operands, hg]; exact .inr (by simpa using hx)))
        have rg := one hg' (by simp [hop, Op.operands, Call.operands, hg])
        rw [hfc] at rg
        generalize hgv : a.eval g = cg at rg
        cases rg with
        | fn _ _ _ ps vs hps hpr hvs hvr =>
          have hcan := (C f _ H v H' h).1.1
          have hrun : (execOp a.eval o).run P w = .ok (.enter f (ps ++ c.args.map a.eval ++ vs)) w := by
            simp only [execOp, hop, resolve, hg, hgv, Deferred.ofValue, Sem.run_bind, Sem.run_pure, Result.andThen_ok, invoke]
            rw [enter_call hcan]
          rw [hrun]
          show Calls P f _ w _
          refine ((C f _ H v H' h).2 μ S w _ I ?_).mono ?_
          · rw [Array.toList_append, Array.toList_append]
            refine VRels.append (VRels.append (VRels.of (by simpa using hps) fun j v hj => by simpa using hpr j v hj) (by simpa using rl)) (VRels.of (by simpa using hvs) fun j v hj => ?_)
            simpa using hvr j v hj
          · rintro e w' ⟨cv, μ', S', rfl, r1, r2, r3⟩
            exact hk cv μ' S' w' r1 r2 r3
      · cases h
    · cases hc
    · rename_i b hb
      have bi : ∀ {s : Sem Value} {cv : Value} {w' : World}, (∀ u1 u2, builtin b c.argTypes u1 u2 (c.args.map a.eval) = (do pure (.value (← s)))) → s.run P w = .ok cv w' → (execOp a.eval o).run P w = .ok (.value cv) w' := by
        intro s cv w' he hs
        simp only [execOp, hop, resolve, hb, Sem.run_bind, Sem.run_pure, Result.andThen_ok, invoke]
        rw [he]
        simp only [Sem.run_bind, hs, Result.andThen_ok, Sem.run_pure]
      split at hc
      · simp only [Option.bind_eq_some_iff] at hc
        obtain ⟨y, hy, hc⟩ := hc
        split at hc <;> simp at hc
      · rename_i x y t u e1 e2
        simp only [Option.bind_eq_some_iff] at hc
        obtain ⟨e, he, e', he', i, hi, a', ha', b', hb', hc⟩ := hc
        split at hc
        · rename_i hcond
          obtain ⟨c1, c2, c3⟩ := hcond
          simp only [Option.some.injEq, AOp.e.injEq] at hc; subst hc
          have ea : c.args = #[x, y] := Array.toList_inj.1 e1
          have et : c.argTypes = #[t, u] := Array.toList_inj.1 e2
          simp only [stepE, Option.bind_eq_bind, Option.bind_eq_some_iff] at h
          obtain ⟨ys, hys, h⟩ := h
          have hzz : ∃ z, i.zero = some z ∧ z.cells.size = i.size := by
            cases hz : i.zero with
            | none => simp [hz] at c2
            | some z => simp [hz] at c2; exact ⟨z, rfl, c2⟩
          obtain ⟨z, hz, hzs⟩ := hzz
          obtain ⟨cv, μ', w', r1, r2, r3, r4⟩ := app_sound (P := P) I (elemOf?_und he) (elemOf?_und he') hi hz hzs c1 c3 (one ha' (by simp [hop, Op.operands, Call.operands, hb, ea])) (one hb' (by simp [hop, Op.operands, Call.operands, hb, ea])) hys h o.type
          rw [bi (s := Builtin.append_ #[t, u] o.type #[a.eval x, a.eval y]) (cv := cv) (w' := w') (fun u1 u2 => by
            have : (#[x, y] : Array Operand).map a.eval = #[a.eval x, a.eval y] := by simp
            simp only [builtin, ea, et, this]
            rfl) r1]
          exact hk cv μ' S w' r2 r3 r4
        · cases hc
      · rename_i x y t u e1 e2
        simp only [Option.bind_eq_some_iff, Option.map_eq_some_iff, AOp.e.injEq] at hc
        obtain ⟨e, he, e', he', s, hs, a', ha', b', hb', rfl⟩ := hc
        have ea : c.args = #[x, y] := Array.toList_inj.1 e1
        have et : c.argTypes = #[t, u] := Array.toList_inj.1 e2
        simp only [stepE] at h
        split at h
        · rename_i id s' off len hra
          simp only [Option.bind_eq_bind, Option.bind_eq_some_iff] at h
          obtain ⟨ys, hys, ⟨fl, xs⟩, hrow, h⟩ := h
          dsimp only at h
          split at h
          · rename_i hcond
            obtain ⟨c1, c2, c3⟩ := hcond
            subst c1
            simp only [Option.some.injEq, Prod.mk.injEq] at h
            obtain ⟨rfl, rfl⟩ := h
            have rx := one ha' (by simp [hop, Op.operands, Call.operands, hb, ea])
            rw [hra] at rx
            obtain ⟨w', r1, r2, r3⟩ := copy_sound (P := P) (u := u) I (elemOf?_und he) hs rx (one hb' (by simp [hop, Op.operands, Call.operands, hb, ea])) (rowAt_inv hrow) c2 hys (fun z hz => List.all_eq_true.1 c3 z hz) o.type
            rw [bi (s := Builtin.copy_ #[t, u] o.type #[a.eval x, a.eval y]) (w' := w') (fun u1 u2 => by
              have : (#[x, y] : Array Operand).map a.eval = #[a.eval x, a.eval y] := by simp
              simp only [builtin, ea, et, this]
              rfl) r1]
            exact hk _ μ S w' (.int _ _) r2 r3
          · cases h
        · cases h
      · rename_i x t e1 e2
        simp only [Option.bind_eq_some_iff] at hc
        obtain ⟨e, he, s, hs, z, hz, a', ha', hc⟩ := hc
        split at hc
        · rename_i hs0
          simp only [Option.some.injEq, AOp.e.injEq] at hc; subst hc
          have ea : c.args = #[x] := Array.toList_inj.1 e1
          have et : c.argTypes = #[t] := Array.toList_inj.1 e2
          have rx := one ha' (by simp [hop, Op.operands, Call.operands, hb, ea])
          have bb : ∀ {cv : Value} {w' : World}, (Builtin.clear_ #[t] o.type #[a.eval x]).run P w = .ok cv w' → (execOp a.eval o).run P w = .ok (.value cv) w' := fun hr =>
            bi (s := Builtin.clear_ #[t] o.type #[a.eval x]) (fun u1 u2 => by
              have : (#[x] : Array Operand).map a.eval = #[a.eval x] := by simp
              simp only [builtin, ea, et, this]
              rfl) hr
          simp only [stepE] at h
          split at h
          · rename_i id s' off len hra
            simp only [Option.bind_eq_bind, Option.bind_eq_some_iff] at h
            obtain ⟨⟨fl, xs⟩, hrow, h⟩ := h
            dsimp only at h
            split at h
            · rename_i hcond
              obtain ⟨c1, c2, c3⟩ := hcond
              subst c1
              simp only [Option.some.injEq, Prod.mk.injEq] at h
              obtain ⟨rfl, rfl⟩ := h
              rw [hra] at rx
              obtain ⟨w', r1, r2, r3⟩ := clear_sound (P := P) I (elemOf?_und he) hs hz rx (rowAt_inv hrow) c2 c3 hs0 o.type
              rw [bb r1]
              exact hk _ μ S w' und r2 r3
            · cases h
          · rename_i hra
            simp only [Option.some.injEq, Prod.mk.injEq] at h
            obtain ⟨rfl, rfl⟩ := h
            rw [hra] at rx
            generalize a.eval x = cx at rx bb
            cases rx
            rw [bb (cv := .tuple #[]) (w' := w) (by simp [Builtin.clear_, run_und (elemOf?_und he)])]
            exact hk _ μ S w und I (Ext.refl _ _ _ _)
          · cases h
        · cases hc
      all_goals (simp [Option.bind_eq_some_iff] at hc)
  all_goals first
    | (simp [Option.bind_eq_some_iff, Option.map_eq_some_iff] at hc; done)
    | (split at hc <;> first
       | (simp [Option.bind_eq_some_iff, Option.map_eq_some_iff] at hc; done)
       | (split at hc <;> simp [Option.map_eq_some_iff] at hc; done))
    | (simp only [Option.bind_eq_some_iff] at hc
       obtain ⟨_, _, _, _, hc⟩ := hc
       split at hc <;> simp at hc; done)
    | skip
end
end Go.AM

/- One operation in turn; a region in the order of its text. -/
set_option linter.unusedVariables false
set_option linter.unusedSimpArgs false
namespace Go.AM
open Go.RowKit
def compGuard (ops : Array Oper) : Option (Nat × Bool) → Option (Option (Nat × Bool))
  | none => some none
  | some (j, b) => ((ops[j]?).bind (·.dst)).map fun g => some (g, b)
def compAO (P : Program) (ops : Array Oper) (o : Oper) : Option AO := (compOp P o).bind fun op => (compGuard ops o.guard).map fun g => { dst := o.dst, op, guard := g }
def compAOs (P : Program) (ops : Array Oper) : List Oper → Option (List AO)
  | [] => some []
  | o :: r => (compAO P ops o).bind fun x => (compAOs P ops r).map (x :: ·)
section
variable {P : Program} {μ : Mu} {S : Nat → Prop} {H : Heap} {w : World} {call : CallF}

theorem wanted_of {ops : Array Oper} {o : Oper} {g : Option (Nat × Bool)} (hg : compGuard ops o.guard = some g) {sl : List V} {a : Act} (hs : ∀ t b, g = some (t, b) → VRel μ S w (sl.getD t .undef) (a.tmps.getD t undef) ∧ t < a.tmps.size) {b : Bool} (h : wants sl g = some b) :
    Region.wanted o (yielded ops a.tmps) = b := by
  unfold Region.wanted
  cases hgd : o.guard with
  | none =>
    rw [hgd] at hg
    simp only [compGuard, Option.some.injEq] at hg; subst hg
    simpa [wants] using h
  | some p =>
    obtain ⟨j, want⟩ := p
    rw [hgd] at hg
    simp only [compGuard, Option.map_eq_some_iff] at hg
    obtain ⟨t, ht, rfl⟩ := hg
    obtain ⟨hr, hlt⟩ := hs t want rfl
    simp only [wants] at h
    have hy : yielded ops a.tmps j = match a.tmps.getD t undef with | .bool b => some b | _ => none := by
      unfold yielded
      rw [ht]
      simp only [Option.bind_some]
      have : a.tmps[t]? = some (a.tmps.getD t undef) := by simp [hlt]
      rw [this]
      cases a.tmps.getD t undef <;> rfl
    simp only [hy]
    split at h
    · rename_i c hc
      rw [hc] at hr
      rw [hr.bool_inv]
      simp only [Option.some.injEq] at h
      subst h
      cases c <;> cases want <;> rfl
    · rename_i hc
      rw [hc] at hr
      obtain ⟨vs, e, -⟩ := hr.tup_inv
      rw [e]
      simp only [Option.some.injEq] at h
      subst h
      rfl
    · cases h
theorem getD_rel {sl : List V} {tm : List Value} (h : VRels μ S w sl tm) (t : Nat) : VRel μ S w (sl.getD t .undef) (tm.getD t undef) := by
  simp only [List.getD]
  cases hs : sl[t]? with
  | none => exact .undef _
  | some v => exact h.get t v hs
theorem wants_lt {sl : List V} {t : Nat} {c b : Bool} (h : wants sl (some (t, c)) = some b) : t < sl.length := by
  simp only [wants] at h
  by_cases hlt : t < sl.length
  · exact hlt
  · simp [List.getD, List.getElem?_eq_none (Nat.le_of_not_lt hlt)] at h
/-- What an operation that is wanted does, in turn. -/
theorem step_in (C : CallOK P call) (I : Inv μ S H w) {o : Oper} {ao : AOp} (hc : compOp P o = some ao) {ρ : Opd → V} {a : Act} (hρ : RelO μ S w ρ a.eval o.op.operands.toList) {v : V} {H' : Heap} (h : stepA call ρ H ao = some (v, H'))
    {next : Act → World → Prop} {Q : Exit → Act → World → Prop} (hk : ∀ cv μ' S' w', VRel μ' S' w' v cv → Inv μ' S' H' w' → Ext μ S H w μ' S' H' w' → next (a.put o.dst cv) w') : o.wp P a w next Q := by
  cases ao with
  | p po =>
    simp only [stepA, Option.map_eq_some_iff, Prod.mk.injEq] at h
    obtain ⟨v', h1, rfl, rfl⟩ := h
    obtain ⟨cv, hr, rr⟩ := P_sound hc hρ (fun _ => rfl) (fun _ => rfl) h1 w
    unfold Oper.wp
    rw [hr]
    exact hk cv μ S w rr I (Ext.refl _ _ _ _)
  | r ro =>
    simp only [stepA, Option.map_eq_some_iff, Prod.mk.injEq] at h
    obtain ⟨v', h1, rfl, rfl⟩ := h
    obtain ⟨cv, hr, rr⟩ := R_sound I hc hρ h1
    unfold Oper.wp
    rw [hr]
    exact hk cv μ S w rr I (Ext.refl _ _ _ _)
  | l lo =>
    simp only [stepA, Option.map_eq_some_iff, Prod.mk.injEq] at h
    obtain ⟨⟨x, v'⟩, h1, rfl, rfl⟩ := h
    have hid : μ H.length = none := by
      cases h : μ H.length with
      | none => rfl
      | some p => have := (I.dom _ p.1 p.2 h).1; omega
    obtain ⟨hl, cv, obj, hr, ho, rr⟩ := L_sound I.sdom hc hρ hid h1
    obtain ⟨I2, E2⟩ := I.push x obj ho
    unfold Oper.wp
    rw [hr]
    exact hk cv _ S _ rr I2 E2
  | e eo => exact E_sound C I hc hρ h hk
theorem step_sound (C : CallOK P call) {ops : Array Oper} {o : Oper} {ao : AO} (hc : compAO P ops o = some ao) {sl sl' : List V} {H' : Heap} (h : stepAO call ao (sl, H) = some (sl', H')) {a : Act} (I : Inv μ S H w) (hs : VRels μ S w sl a.tmps.toList)
    {next : Act → World → Prop} {Q : Exit → Act → World → Prop} (hk : ∀ a' μ' S' w', VRels μ' S' w' sl' a'.tmps.toList → Inv μ' S' H' w' → Ext μ S H w μ' S' H' w' → a'.defers = a.defers → next a' w') :
    if Region.wanted o (yielded ops a.tmps) then o.wp P a w next Q ∨ (o.asks P a w ∧ LetsOut Q) else next (a.put o.dst undef) w := by
  simp only [compAO, Option.bind_eq_some_iff, Option.map_eq_some_iff] at hc
  obtain ⟨op, hop, g, hg, rfl⟩ := hc
  have hd : ∀ (d : Option Nat) (x : Value), (a.put d x).defers = a.defers := fun d x => by cases d <;> rfl
  have hgs : ∀ b, wants sl g = some b → ∀ t c, g = some (t, c) → VRel μ S w (sl.getD t .undef) (a.tmps.getD t undef) ∧ t < a.tmps.size := fun b hb t c e => by
    subst e
    refine ⟨by simpa using getD_rel hs t, ?_⟩
    have := wants_lt hb
    have hl := hs.length
    simpa [hl] using this
  unfold stepAO at h
  split at h
  · rename_i hw
    rw [wanted_of hg (hgs _ hw) hw]
    simp only [Option.map_eq_some_iff, Prod.mk.injEq] at h
    obtain ⟨⟨v, H1⟩, h1, rfl, rfl⟩ := h
    simp only [if_true]
    left
    exact step_in C I hop (relO_of I.laid hs _) h1 fun cv μ' S' w' r1 r2 r3 => hk _ μ' S' w' (by
      have : VRels μ' S' w' sl a.tmps.toList := hs.ext I r3
      exact put_rel this _ r1) r2 r3 (hd _ _)
  · rename_i hw
    rw [wanted_of hg (hgs _ hw) hw]
    simp only [Option.some.injEq, Prod.mk.injEq] at h
    obtain ⟨rfl, rfl⟩ := h
    simp only [Bool.false_eq_true, if_false]
    exact hk _ μ S w (put_rel hs _ (.tup [] #[] rfl (fun j v hj => by simp at hj))) I (Ext.refl _ _ _ _) (hd _ _)
  · cases h
theorem ops_sound (C : CallOK P call) {ops : Array Oper} : ∀ {l : List Oper} {aos : List AO}, compAOs P ops l = some aos → ∀ {st st' : St}, runOps call aos st = some st' → ∀ {μ : Mu} {S : Nat → Prop} {w : World} {a : Act}, Inv μ S st.2 w → VRels μ S w st.1 a.tmps.toList →
    ∀ {Q : Exit → Act → World → Prop}, (∀ a' μ' S' w', VRels μ' S' w' st'.1 a'.tmps.toList → Inv μ' S' st'.2 w' → Ext μ S st.2 w μ' S' st'.2 w' → a'.defers = a.defers → Q .normal a' w') → wpList P ops Q l a w
  | [], aos, hc, st, st', h, μ, S, w, a, I, hs, Q, hk => by
    simp [compAOs] at hc; subst hc
    simp [runOps] at h; subst h
    exact hk a μ S w hs I (Ext.refl _ _ _ _) rfl
  | o :: l, aos, hc, st, st', h, μ, S, w, a, I, hs, Q, hk => by
    simp only [compAOs, Option.bind_eq_some_iff, Option.map_eq_some_iff] at hc
    obtain ⟨ao, ho, aos', hl, rfl⟩ := hc
    simp only [runOps, Option.bind_eq_some_iff] at h
    obtain ⟨⟨sl1, H1⟩, h1, h2⟩ := h
    unfold wpList
    exact step_sound C ho h1 I hs fun a' μ' S' w' r1 r2 r3 r4 => ops_sound C hl h2 r2 r1 fun a'' μ'' S'' w'' q1 q2 q3 q4 => hk a'' μ'' S'' w'' q1 q2 (r3.trans q3) (q4.trans r4)
end
end Go.AM

/- A region that draws its order: whatever the order, it comes to what the machine comes to. -/
set_option linter.unusedVariables false
set_option linter.unusedSimpArgs false
namespace Go.AM
open Go.RowKit

/-- An operation of a region that draws: itself, its number, the slots that it looks at, what is ahead of it. -/
structure DO where
  ao : AO
  i : Nat
  rd : List Nat
  m : Nat
def edgesOf (o : Oper) : List Nat := o.after.toList.filterMap fun e => if Region.binds .any e then some e.on else none
def edgesAt (ops : Array Oper) (i : Nat) : List Nat := ((ops[i]?).map edgesOf).getD []
def slotsOf (ops : Array Oper) (o : Oper) : List Nat := (o.op.operands.toList.filterMap fun x => match x with | .tmp t => some t | _ => none) ++ (match o.guard with
  | some (j, _) => (((ops[j]?).bind (·.dst)).toList)
  | none => [])
def okPair (d d' : DO) : Bool := d.i != d'.i &&
  ((match d.ao.dst with
    | none => true
    | some t => d'.ao.dst != some t && (!d'.rd.contains t || d'.m.testBit d.i)) &&
   (match d'.ao.dst with
    | none => true
    | some t => !d.rd.contains t || d'.m.testBit d.i))
def reOK (re i : Nat) : List DO → Nat → Bool
  | [], _ => true
  | d :: r, c => if isE d.ao.op then (d.m.testBit i || decide (c + 1 ≤ re)) && reOK re i r (c + 1) else reOK re i r c
def maskIn (seen : List (Nat × Nat)) (i : Nat) : Option Nat := (seen.find? (·.1 == i)).map (·.2)
def maskOf (seen : List (Nat × Nat)) (es : List Nat) : Nat := es.foldl (fun s on => s ||| (2 ^ on ||| (maskIn seen on).getD 0)) 0
def ckGo (E : Nat → List Nat) : List DO → List (Nat × Nat) → Option Nat → Bool
  | [], _, _ => true
  | d :: r, seen, last => (E d.i).all (fun on => (maskIn seen on).isSome) && (d.m == maskOf seen (E d.i) && ((match last with | none => true | some e => d.m.testBit e) &&
      (r.all (okPair d) && (reOK d.ao.re d.i r 0 && ckGo E r (seen ++ [(d.i, d.m)]) (if isE d.ao.op then some d.i else last)))))
section
variable {E : Nat → List Nat}
theorem ckGo_spec : ∀ {ds : List DO} {seen : List (Nat × Nat)} {last : Option Nat}, ckGo E ds seen last = true → ∀ (p : Nat) (d : DO), ds[p]? = some d →
    (∀ on ∈ E d.i, (∃ x ∈ seen, x.1 = on) ∨ ∃ q d', q < p ∧ ds[q]? = some d' ∧ d'.i = on) ∧
    (∀ j, d.m.testBit j = true → ∃ on ∈ E d.i, j = on ∨ (∃ x ∈ seen, x.1 = on ∧ x.2.testBit j = true) ∨ ∃ q d', q < p ∧ ds[q]? = some d' ∧ d'.i = on ∧ d'.m.testBit j = true) ∧
    (∀ q d', q < p → ds[q]? = some d' → okPair d' d = true) ∧
    reOK d.ao.re d.i (ds.drop (p + 1)) 0 = true ∧
    ((∀ q d', q < p → ds[q]? = some d' → isE d'.ao.op = false) → ∀ e, last = some e → d.m.testBit e = true) ∧
    (∀ q d', q < p → ds[q]? = some d' → isE d'.ao.op = true → (∀ q' d'', q < q' → q' < p → ds[q']? = some d'' → isE d''.ao.op = false) → d.m.testBit d'.i = true)
  | [], seen, last, h, p, d, hd => by simp at hd
  | d0 :: r, seen, last, h, p, d, hd => by
    simp only [ckGo, Bool.and_eq_true] at h
    obtain ⟨h1, h2, h3, h4, h5, h6⟩ := h
    cases p with
    | zero =>
      simp at hd
      subst hd
      refine ⟨fun on hon => ?_, fun j hj => ?_, fun q d' hq => by omega, by simpa using h5, fun _ e he => by subst he; exact h3, fun q d' hq => by omega⟩
      · have := List.all_eq_true.1 h1 on hon
        unfold maskIn at this
        cases hf : seen.find? (·.1 == on) with
        | none => simp [hf] at this
        | some x => exact .inl ⟨x, List.mem_of_find?_eq_some hf, by simpa using List.find?_some hf⟩
      · have hm : d0.m = maskOf seen (E d0.i) := by simpa using h2
        rw [hm] at hj
        have key : ∀ (es : List Nat) (s : Nat), (es.foldl (fun s on => s ||| (2 ^ on ||| (maskIn seen on).getD 0)) s).testBit j = true → s.testBit j = true ∨ ∃ on ∈ es, j = on ∨ ∃ x ∈ seen, x.1 = on ∧ x.2.testBit j = true := by
          intro es
          induction es with
          | nil => intro s hs; exact .inl hs
          | cons on es ih =>
            intro s hs
            rcases ih _ hs with h | ⟨on', hon', h⟩
            · simp only [Nat.testBit_or, Bool.or_eq_true] at h
              rcases h with h | h | h
              · exact .inl h
              · rw [Nat.testBit_two_pow] at h
                exact .inr ⟨on, List.mem_cons_self, .inl (by simpa using h : on = j).symm⟩
              · refine .inr ⟨on, List.mem_cons_self, .inr ?_⟩
                unfold maskIn at h
                cases hf : seen.find? (·.1 == on) with
                | none => simp [hf] at h
                | some x => exact ⟨x, List.mem_of_find?_eq_some hf, by simpa using List.find?_some hf, by simpa [hf] using h⟩
            · exact .inr ⟨on', List.mem_cons_of_mem _ hon', h⟩
        rcases key _ _ hj with h | ⟨on, hon, h⟩
        · simp at h
        · exact ⟨on, hon, h.imp id .inl⟩
    | succ p =>
      have hd' : r[p]? = some d := by simpa using hd
      obtain ⟨k1, k2, k3, k4, k5, k6⟩ := ckGo_spec h6 p d hd'
      have up : ∀ {on : Nat} {Pr : Nat → Prop}, ((∃ x ∈ seen ++ [(d0.i, d0.m)], x.1 = on ∧ Pr x.2) ∨ ∃ q d', q < p ∧ r[q]? = some d' ∧ d'.i = on ∧ Pr d'.m) →
          ((∃ x ∈ seen, x.1 = on ∧ Pr x.2) ∨ ∃ q d', q < p + 1 ∧ (d0 :: r)[q]? = some d' ∧ d'.i = on ∧ Pr d'.m) := by
        intro on Pr h
        rcases h with ⟨x, hx, e, hp⟩ | ⟨q, d', hq, hd', e, hp⟩
        · rcases List.mem_append.1 hx with hx | hx
          · exact .inl ⟨x, hx, e, hp⟩
          · simp at hx
            subst hx
            exact .inr ⟨0, d0, by omega, rfl, e, hp⟩
        · exact .inr ⟨q + 1, d', by omega, by simpa using hd', e, hp⟩
      refine ⟨fun on hon => ?_, fun j hj => ?_, fun q d' hq hd'' => ?_, by simpa using k4, fun hno e he => ?_, fun q d' hq hd'' he hno => ?_⟩
      · have := up (Pr := fun _ => True) (by simpa using k1 on hon)
        simpa using this
      · obtain ⟨on, hon, h⟩ := k2 j hj
        refine ⟨on, hon, ?_⟩
        rcases h with h | h
        · exact .inl h
        · exact .inr (up (Pr := fun m => m.testBit j = true) h)
      · cases q with
        | zero =>
          simp at hd''
          subst hd''
          exact List.all_eq_true.1 h4 d (List.mem_of_getElem? hd')
        | succ q => exact k3 q d' (by omega) (by simpa using hd'')
      · have h0 : isE d0.ao.op = false := hno 0 d0 (by omega) rfl
        refine k5 (fun q d' hq hd' => hno (q + 1) d' (by omega) (by simpa using hd')) e ?_
        rw [h0]
        simpa using he
      · cases q with
        | zero =>
          simp at hd''
          subst hd''
          exact k5 (fun q d' hq hd' => hno (q + 1) d' (by omega) (by omega) (by simpa using hd')) d0.i (by rw [he]; rfl)
        | succ q => exact k6 q d' (by omega) (by simpa using hd'') he fun q' d'' h1 h2 h3 => hno (q' + 1) d'' (by omega) (by omega) (by simpa using h3)
end
/-- How many effects stand in a list. -/
def cntE (l : List DO) : Nat := l.countP fun d => isE d.ao.op
theorem reOK_spec : ∀ {ds : List DO} {re i c : Nat}, reOK re i ds c = true → ∀ (p : Nat) (d : DO), ds[p]? = some d → isE d.ao.op = true → d.m.testBit i = true ∨ c + cntE (ds.take (p + 1)) ≤ re
  | [], re, i, c, h, p, d, hd, he => by simp at hd
  | d0 :: r, re, i, c, h, p, d, hd, he => by
    simp only [reOK] at h
    cases p with
    | zero =>
      simp at hd
      subst hd
      rw [if_pos he, Bool.and_eq_true, Bool.or_eq_true] at h
      rcases h.1 with h | h
      · exact .inl h
      · right
        simp only [decide_eq_true_eq] at h
        simp [cntE, he]
        exact h
    | succ p =>
      have hd' : r[p]? = some d := by simpa using hd
      split at h
      · rename_i h0
        rw [Bool.and_eq_true] at h
        rcases reOK_spec h.2 p d hd' he with h | h
        · exact .inl h
        · right
          simp only [cntE, List.take_succ_cons, List.countP_cons, h0, if_true] at h ⊢
          omega
      · rename_i h0
        rcases reOK_spec h p d hd' he with h | h
        · exact .inl h
        · right
          simp only [cntE, List.take_succ_cons, List.countP_cons, h0] at h ⊢
          simpa using h

/-- The states of a run, one behind each operation; and what was held against the effects. -/
theorem runDraw_states {call : CallF} : ∀ {ds : List DO} {ps : List Pend} {st st' : St}, runDraw call (ds.map (·.ao)) ps st = some st' → ∃ f : Nat → St, f 0 = st ∧ f ds.length = st' ∧
    (∀ p d, ds[p]? = some d → stepAO call d.ao (f p) = some (f (p + 1))) ∧
    (∀ x ∈ ps, ∀ p d, ds[p]? = some d → isE d.ao.op = true → cntE (ds.take (p + 1)) ≤ x.2 → x.1 (f (p + 1)).2 = true) ∧
    (∀ p d, ds[p]? = some d → isE d.ao.op = false → ∀ x ∈ newPend d.ao (f p) (f (p + 1)), ∀ q d', p < q → ds[q]? = some d' → isE d'.ao.op = true → cntE ((ds.drop (p + 1)).take (q - p)) ≤ x.2 → x.1 (f (q + 1)).2 = true)
  | [], ps, st, st', h => by
    simp [runDraw] at h
    subst h
    exact ⟨fun _ => st, rfl, rfl, fun p d hd => by simp at hd, fun x _ p d hd => by simp at hd, fun p d hd => by simp at hd⟩
  | d0 :: r, ps, st, st', h => by
    simp only [List.map_cons, runDraw, Option.bind_eq_some_iff] at h
    obtain ⟨st1, h1, h⟩ := h
    have fin : ∀ (ps' : List Pend) (g : Nat → St), g 0 = st1 → g r.length = st' → (∀ p d, r[p]? = some d → stepAO call d.ao (g p) = some (g (p + 1))) →
        (∀ x ∈ ps', ∀ p d, r[p]? = some d → isE d.ao.op = true → cntE (r.take (p + 1)) ≤ x.2 → x.1 (g (p + 1)).2 = true) →
        (∀ p d, r[p]? = some d → isE d.ao.op = false → ∀ x ∈ newPend d.ao (g p) (g (p + 1)), ∀ q d', p < q → r[q]? = some d' → isE d'.ao.op = true → cntE ((r.drop (p + 1)).take (q - p)) ≤ x.2 → x.1 (g (q + 1)).2 = true) →
        (∀ x ∈ ps, (isE d0.ao.op = true → 1 ≤ x.2 → x.1 st1.2 = true) ∧ ∃ y ∈ ps', y.1 = x.1 ∧ (if isE d0.ao.op then x.2 ≤ y.2 + 1 else x.2 ≤ y.2)) →
        (isE d0.ao.op = false → ∀ x ∈ newPend d0.ao st st1, x ∈ ps') →
        ∃ f : Nat → St, f 0 = st ∧ f (d0 :: r).length = st' ∧ (∀ p d, (d0 :: r)[p]? = some d → stepAO call d.ao (f p) = some (f (p + 1))) ∧
          (∀ x ∈ ps, ∀ p d, (d0 :: r)[p]? = some d → isE d.ao.op = true → cntE ((d0 :: r).take (p + 1)) ≤ x.2 → x.1 (f (p + 1)).2 = true) ∧
          (∀ p d, (d0 :: r)[p]? = some d → isE d.ao.op = false → ∀ x ∈ newPend d.ao (f p) (f (p + 1)), ∀ q d', p < q → (d0 :: r)[q]? = some d' → isE d'.ao.op = true → cntE (((d0 :: r).drop (p + 1)).take (q - p)) ≤ x.2 → x.1 (f (q + 1)).2 = true) := by
      intro ps' g g0 gn gs gp gq hps hnew
      refine ⟨fun p => match p with | 0 => st | p + 1 => g p, rfl, by simpa using gn, fun p d hd => ?_, fun x hx p d hd he hc => ?_, fun p d hd he x hx q d' hq hd' he' hc => ?_⟩
      · cases p with
        | zero => simp at hd; subst hd; simpa [g0] using h1
        | succ p => exact gs p d (by simpa using hd)
      · obtain ⟨a1, y, hy, a2, a3⟩ := hps x hx
        cases p with
        | zero =>
          simp at hd; subst hd
          simp only [g0]
          exact a1 he (by simpa [cntE, he] using hc)
        | succ p =>
          have := gp y hy p d (by simpa using hd) he (by
            simp only [cntE, List.take_succ_cons, List.countP_cons] at hc ⊢
            split at a3
            · rename_i h0; rw [if_pos h0] at hc; omega
            · rename_i h0; rw [if_neg h0] at hc; omega)
          rw [a2] at this
          exact this
      · cases p with
        | zero =>
          simp at hd; subst hd
          simp only [g0] at hx
          obtain ⟨q, rfl⟩ : ∃ q', q = q' + 1 := ⟨q - 1, by omega⟩
          exact gp x (hnew he x hx) q d' (by simpa using hd') he' (by simpa using hc)
        | succ p =>
          obtain ⟨q, rfl⟩ : ∃ q', q = q' + 1 := ⟨q - 1, by omega⟩
          exact gq p d (by simpa using hd) he x hx q d' (by omega) (by simpa using hd') he' (by
            simp only [List.drop_succ_cons] at hc
            rwa [show q + 1 - (p + 1) = q - p by omega] at hc)
    split at h
    · rename_i he
      split at h
      · rename_i hag
        obtain ⟨g, g0, gn, gs, gp, gq⟩ := runDraw_states h
        refine fin (lower ps) g g0 gn gs gp gq (fun x hx => ⟨fun _ h1 => ?_, (x.1, x.2 - 1), List.mem_map.2 ⟨x, hx, rfl⟩, rfl, by rw [if_pos he]; omega⟩) (fun h0 => by rw [h0] at he; cases he)
        have := List.all_eq_true.1 hag x hx
        simp only [Bool.or_eq_true, beq_iff_eq] at this
        rcases this with h | h
        · omega
        · exact h
      · cases h
    · rename_i he
      have he' : isE d0.ao.op = false := by simpa using he
      obtain ⟨g, g0, gn, gs, gp, gq⟩ := runDraw_states h
      exact fin _ g g0 gn gs gp gq (fun x hx => ⟨fun h1 => (by rw [he'] at h1; cases h1), x, List.mem_append_right _ hx, rfl, by rw [if_neg he]; exact Nat.le_refl _⟩) (fun _ x hx => List.mem_append_left _ hx)
end Go.AM

/- A region that draws its order, continued: the invariant, and one step. -/
set_option linter.unusedVariables false
set_option linter.unusedSimpArgs false
namespace Go.AM
open Go.RowKit

theorem rowAt_grow {H : Heap} {id s : Nat} {r : Bool × List V} (L : Heap) (h : rowAt H id s = some r) : rowAt (H ++ L) id s = some r := by
  unfold rowAt at h ⊢
  split at h
  · rename_i hx
    rw [List.getElem?_append_left (List.getElem?_eq_some_iff.1 hx).1, hx]
    exact h
  · cases h
theorem get_grow {H : Heap} {i : Nat} {x : O} (L : Heap) (h : H[i]? = some x) : (H ++ L)[i]? = some x := by
  rw [List.getElem?_append_left (List.getElem?_eq_some_iff.1 h).1]; exact h
theorem elems_grow' {H : Heap} {v : V} {vs : List V} (L : Heap) (h : elems H v = some vs) : elems (H ++ L) v = some vs := by
  unfold elems at h ⊢
  split at h
  · exact h
  · exact h
  · simp only [Option.bind_eq_bind, Option.bind_eq_some_iff] at h ⊢
    obtain ⟨r, h1, h2⟩ := h
    exact ⟨r, rowAt_grow L h1, h2⟩
  · cases h
theorem stepR_grow {ρ : Opd → V} {H : Heap} {r : ROp} {v : V} (L : Heap) (h : stepR ρ H r = some v) : stepR ρ (H ++ L) r = some v := by
  cases r with
  | load sh a =>
    simp only [stepR] at h ⊢
    split at h
    · simp only [Option.bind_eq_bind, Option.bind_eq_some_iff] at h ⊢
      obtain ⟨x, hx, r⟩ := h
      exact ⟨x, rowAt_grow L hx, r⟩
    · exact h
    · cases h
  | look kt z ok m k =>
    simp only [stepR] at h ⊢
    split at h
    · rename_i hcf
      rw [if_pos hcf]
      split at h
      · split at h
        · rename_i hx
          rw [get_grow L hx]
          exact h
        · cases h
      · exact h
      · cases h
    · cases h
  | lenm m =>
    simp only [stepR] at h ⊢
    split at h
    · split at h
      · rename_i hx
        rw [get_grow L hx]
        exact h
      · cases h
    · exact h
    · cases h
  | b2s x =>
    simp only [stepR, Option.bind_eq_some_iff] at h ⊢
    obtain ⟨vs, h1, h2⟩ := h
    exact ⟨vs, elems_grow' L h1, h2⟩
section
variable {P : Program} {call : CallF} {ops : Array Oper} {ds : List DO} {f : Nat → St}

theorem stepAO_slots {o : AO} {st st' : St} (h : stepAO call o st = some st') : ∃ v, st'.1 = putD st.1 o.dst v := by
  unfold stepAO at h
  split at h
  · simp only [Option.map_eq_some_iff] at h
    obtain ⟨x, -, rfl⟩ := h
    exact ⟨_, rfl⟩
  · injection h with h; subst h; exact ⟨_, rfl⟩
  · cases h
theorem stepAO_float {o : AO} {st st' : St} (h : stepAO call o st = some st') (he : isE o.op = false) : ∃ L, st'.2 = st.2 ++ L := by
  unfold stepAO at h
  split at h
  · simp only [Option.map_eq_some_iff] at h
    obtain ⟨x, hx, rfl⟩ := h
    cases hop : o.op with
    | p po => rw [hop] at hx; simp only [stepA, Option.map_eq_some_iff] at hx; obtain ⟨v, -, rfl⟩ := hx; exact ⟨[], by simp⟩
    | r ro => rw [hop] at hx; simp only [stepA, Option.map_eq_some_iff] at hx; obtain ⟨v, -, rfl⟩ := hx; exact ⟨[], by simp⟩
    | l lo => rw [hop] at hx; simp only [stepA, Option.map_eq_some_iff] at hx; obtain ⟨v, -, rfl⟩ := hx; exact ⟨[v.1], rfl⟩
    | e eo => rw [hop] at he; simp [isE] at he
  · injection h with h; subst h; exact ⟨[], by simp⟩
  · cases h
theorem putD_get {sl : List V} {d : Option Nat} {v : V} {t : Nat} (h : d ≠ some t) : (putD sl d v).getD t .undef = sl.getD t .undef := by
  cases d with
  | none => rfl
  | some i =>
    simp only [putD, List.getD]
    rw [List.getElem?_set_ne (by intro e; exact h (by rw [e]))]
variable (hs : ∀ (p : Nat) (d : DO), ds[p]? = some d → stepAO call d.ao (f p) = some (f (p + 1)))
include hs
theorem slots_keep (t : Nat) : ∀ (k p : Nat), p + k ≤ ds.length → (∀ q d, p ≤ q → q < p + k → ds[q]? = some d → d.ao.dst ≠ some t) → (f (p + k)).1.getD t .undef = (f p).1.getD t .undef
  | 0, p, _, _ => rfl
  | k + 1, p, hl, h => by
    have ih := slots_keep t k p (by omega) fun q d h1 h2 => h q d h1 (by omega)
    have hd : ds[p + k]? = some (ds[p + k]'(by omega)) := List.getElem?_eq_getElem _
    obtain ⟨v, hv⟩ := stepAO_slots (hs _ _ hd)
    rw [← ih, show p + (k + 1) = p + k + 1 by omega, hv]
    exact putD_get (h _ _ (by omega) (by omega) hd)
theorem slots_len : ∀ (p : Nat), p ≤ ds.length → (f p).1.length = (f 0).1.length
  | 0, _ => rfl
  | p + 1, h => by
    have ih := slots_len p (by omega)
    have hd : ds[p]? = some (ds[p]'(by omega)) := List.getElem?_eq_getElem _
    obtain ⟨v, hv⟩ := stepAO_slots (hs _ _ hd)
    rw [hv, ← ih]
    cases (ds[p]'(by omega)).ao.dst <;> simp [putD]
theorem heap_grow : ∀ (k p : Nat), p + k ≤ ds.length → (∀ q d, p ≤ q → q < p + k → ds[q]? = some d → isE d.ao.op = false) → ∃ L, (f (p + k)).2 = (f p).2 ++ L
  | 0, p, _, _ => ⟨[], by simp⟩
  | k + 1, p, hl, h => by
    obtain ⟨L, ih⟩ := heap_grow k p (by omega) fun q d h1 h2 => h q d h1 (by omega)
    have hd : ds[p + k]? = some (ds[p + k]'(by omega)) := List.getElem?_eq_getElem _
    obtain ⟨L', hL⟩ := stepAO_float (hs _ _ hd) (h _ _ (by omega) (by omega) hd)
    exact ⟨L ++ L', by rw [show p + (k + 1) = p + k + 1 by omega, hL, ih]; simp⟩
omit hs

/-- What an order has come to, held against the machine's own run. -/
structure Jc (ops : Array Oper) (ds : List DO) (f : Nat → St) (μ₀ : Mu) (S₀ : Nat → Prop) (w₀ : World) (a₀ : Act) (L : Nat → Bool) (a : Act) (w : World) (μ : Mu) (S : Nat → Prop) (q : Nat) : Prop where
  closed : ∀ (p : Nat) (d : DO), ds[p]? = some d → L d.i = true → ∀ on ∈ edgesAt ops d.i, L on = true
  size : a.tmps.size = (f 0).1.length
  slot1 : ∀ (p : Nat) (d : DO) (t : Nat), ds[p]? = some d → d.ao.dst = some t → L d.i = true → VRel μ S w ((f (p + 1)).1.getD t .undef) (a.tmps.getD t undef)
  slot0 : ∀ (t : Nat), (∀ (p : Nat) (d : DO), ds[p]? = some d → d.ao.dst = some t → L d.i = false) → VRel μ S w ((f 0).1.getD t .undef) (a.tmps.getD t undef)
  qle : q ≤ ds.length
  qeff : ∀ (p : Nat) (d : DO), ds[p]? = some d → isE d.ao.op = true → (L d.i = true ↔ p < q)
  qat : q < ds.length → ∃ d, ds[q]? = some d ∧ isE d.ao.op = true
  inv : Inv μ S (f q).2 w
  ext : Ext μ₀ S₀ (f 0).2 w₀ μ S (f q).2 w
  ph : ∀ (p : Nat) (d : DO) (lo : LOp), ds[p]? = some d → d.ao.op = .l lo → wants (f p).1 d.ao.guard = some true → p < q → L d.i = false → μ (f p).2.length = none
  defers : a.defers = a₀.defers

variable {L : Nat → Bool} (hck : ckGo (edgesAt ops) ds [] none = true) (closed : ∀ (p : Nat) (d : DO), ds[p]? = some d → L d.i = true → ∀ on ∈ edgesAt ops d.i, L on = true)
include hck closed
theorem mask_closed : ∀ (n p : Nat), p ≤ n → ∀ d, ds[p]? = some d → (∀ on ∈ edgesAt ops d.i, L on = true) → ∀ j, d.m.testBit j = true → L j = true := by
  intro n
  induction n with
  | zero =>
    intro p hp d hd he j hj
    obtain ⟨on, hon, h⟩ := (ckGo_spec hck p d hd).2.1 j hj
    rcases h with rfl | ⟨x, hx, -⟩ | ⟨q, d', hq, -⟩
    · exact he _ hon
    · simp at hx
    · omega
  | succ n ih =>
    intro p hp d hd he j hj
    obtain ⟨on, hon, h⟩ := (ckGo_spec hck p d hd).2.1 j hj
    rcases h with rfl | ⟨x, hx, -⟩ | ⟨q, d', hq, hd', e, hm⟩
    · exact he _ hon
    · simp at hx
    · exact ih q (by omega) d' hd' (closed q d' hd' (by rw [e]; exact he _ hon)) j hm
theorem eff_listed : ∀ (n p : Nat), p ≤ n → ∀ d, ds[p]? = some d → (∀ on ∈ edgesAt ops d.i, L on = true) → ∀ (k q : Nat) d', q < p → p - q ≤ k → ds[q]? = some d' → isE d'.ao.op = true → L d'.i = true := by
  intro n
  induction n with
  | zero => intro p hp d hd he k q d' hq; omega
  | succ n ihn =>
    intro p hp d hd he k
    induction k with
    | zero => intro q d' hq hk; omega
    | succ k ihk =>
      intro q d' hq hk hd' he'
      by_cases h : ∃ q' d'', q < q' ∧ q' < p ∧ ds[q']? = some d'' ∧ isE d''.ao.op = true
      · obtain ⟨q', d'', h1, h2, h3, h4⟩ := h
        have hl := ihk q' d'' h2 (by omega) h3 h4
        exact ihn q' (by omega) d'' h3 (closed q' d'' h3 hl) (q' - q) q d' h1 (Nat.le_refl _) hd' he'
      · have hbit := (ckGo_spec hck p d hd).2.2.2.2.2 q d' hq hd' he' fun q' d'' h1 h2 h3 => by
          cases hE : isE d''.ao.op with
          | false => rfl
          | true => exact absurd ⟨q', d'', h1, h2, h3, hE⟩ h
        exact mask_closed hck closed p p (Nat.le_refl _) d hd he _ hbit
end
end Go.AM

/- A region that draws its order: the step, and the whole. -/
set_option linter.unusedVariables false
set_option linter.unusedSimpArgs false
namespace Go.AM
open Go.RowKit
section
variable {P : Program} {call : CallF} {ops : Array Oper} {ds : List DO} {f : Nat → St}

theorem next_eff (ds : List DO) : ∀ (k p : Nat), p + k = ds.length → ∃ q, p ≤ q ∧ q ≤ ds.length ∧ (∀ p' d, p ≤ p' → p' < q → ds[p']? = some d → isE d.ao.op = false) ∧ (q < ds.length → ∃ d, ds[q]? = some d ∧ isE d.ao.op = true)
  | 0, p, h => ⟨p, Nat.le_refl _, by omega, fun p' d h1 h2 => by omega, fun h' => by omega⟩
  | k + 1, p, h => by
    have hd : ds[p]? = some (ds[p]'(by omega)) := List.getElem?_eq_getElem _
    cases he : isE (ds[p]'(by omega)).ao.op with
    | true => exact ⟨p, Nat.le_refl _, by omega, fun p' d h1 h2 => by omega, fun _ => ⟨_, hd, he⟩⟩
    | false =>
      obtain ⟨q, h1, h2, h3, h4⟩ := next_eff ds k (p + 1) (by omega)
      refine ⟨q, by omega, h2, fun p' d a b hd' => ?_, h4⟩
      by_cases hp : p' = p
      · subst hp
        rw [hd] at hd'
        injection hd' with hd'
        rw [← hd']
        exact he
      · exact h3 p' d (by omega) b hd'
/-- The last effect ahead of a place. -/
theorem last_eff (ds : List DO) (p : Nat) : ∀ (k q : Nat), q = p + 1 + k → q ≤ ds.length → (∀ p' d, p < p' → p' < q → ds[p']? = some d → isE d.ao.op = false) ∨
    ∃ e d, p < e ∧ e < q ∧ ds[e]? = some d ∧ isE d.ao.op = true ∧ ∀ p' d, e < p' → p' < q → ds[p']? = some d → isE d.ao.op = false
  | 0, q, h, _ => .inl fun p' d h1 h2 => by omega
  | k + 1, q, h, hl => by
    have hd : ds[q - 1]? = some (ds[q - 1]'(by omega)) := List.getElem?_eq_getElem _
    cases he : isE (ds[q - 1]'(by omega)).ao.op with
    | true => exact .inr ⟨q - 1, _, by omega, by omega, hd, he, fun p' d h1 h2 => by omega⟩
    | false =>
      have add : ∀ p', p' < q → ¬ p' < q - 1 → ∀ d, ds[p']? = some d → isE d.ao.op = false := fun p' h1 h2 d hd' => by
        have : p' = q - 1 := by omega
        subst this
        rw [hd] at hd'
        injection hd' with hd'
        rw [← hd']; exact he
      rcases last_eff ds p k (q - 1) (by omega) (by omega) with h | ⟨e, d, h1, h2, h3, h4, h5⟩
      · refine .inl fun p' d a b hd' => ?_
        by_cases hp : p' < q - 1
        · exact h p' d a hp hd'
        · exact add p' b hp d hd'
      · refine .inr ⟨e, d, h1, by omega, h3, h4, fun p' d a b hd' => ?_⟩
        by_cases hp : p' < q - 1
        · exact h5 p' d a hp hd'
        · exact add p' b hp d hd'
theorem okPair_inv {d d' : DO} (h : okPair d d' = true) : d.i ≠ d'.i ∧ (∀ t, d.ao.dst = some t → d'.ao.dst ≠ some t ∧ (t ∈ d'.rd → d'.m.testBit d.i = true)) ∧ (∀ t, d'.ao.dst = some t → t ∈ d.rd → d'.m.testBit d.i = true) := by
  unfold okPair at h
  simp only [Bool.and_eq_true, bne_iff_ne, ne_eq] at h
  obtain ⟨h1, h2, h3⟩ := h
  refine ⟨h1, fun t ht => ?_, fun t ht hm => ?_⟩
  · rw [ht] at h2
    simp only [Bool.and_eq_true, bne_iff_ne, ne_eq, Bool.or_eq_true, Bool.not_eq_true'] at h2
    refine ⟨h2.1, fun hm => ?_⟩
    rcases h2.2 with h | h
    · have : d'.rd.contains t = true := by simpa using hm
      rw [h] at this; cases this
    · exact h
  · rw [ht] at h3
    simp only [Bool.or_eq_true, Bool.not_eq_true'] at h3
    rcases h3 with h | h
    · have : d.rd.contains t = true := by simpa using hm
      rw [h] at this; cases this
    · exact h
/-- Each slot has one writer. -/
theorem one_writer (hck : ckGo (edgesAt ops) ds [] none = true) {p q : Nat} {d d' : DO} {t : Nat} (hd : ds[p]? = some d) (hd' : ds[q]? = some d') (h : d.ao.dst = some t) (h' : d'.ao.dst = some t) : p = q := by
  rcases Nat.lt_trichotomy p q with hlt | he | hlt
  · exact absurd h' ((okPair_inv ((ckGo_spec hck q d' hd').2.2.1 p d hlt hd)).2.1 t h).1
  · exact he
  · exact absurd h ((okPair_inv ((ckGo_spec hck p d hd).2.2.1 q d' hlt hd')).2.1 t h').1
theorem one_index (hck : ckGo (edgesAt ops) ds [] none = true) {p q : Nat} {d d' : DO} (hd : ds[p]? = some d) (hd' : ds[q]? = some d') (h : d.i = d'.i) : p = q := by
  rcases Nat.lt_trichotomy p q with hlt | he | hlt
  · exact absurd h (okPair_inv ((ckGo_spec hck q d' hd').2.2.1 p d hlt hd)).1
  · exact he
  · exact absurd h.symm (okPair_inv ((ckGo_spec hck p d hd).2.2.1 q d' hlt hd')).1
section
variable {μ₀ : Mu} {S₀ : Nat → Prop} {w₀ : World} {a₀ : Act} {L : Nat → Bool} {a : Act} {w : World} {μ : Mu} {S : Nat → Prop} {q : Nat} (hs : ∀ (p : Nat) (d : DO), ds[p]? = some d → stepAO call d.ao (f p) = some (f (p + 1)))
  (hck : ckGo (edgesAt ops) ds [] none = true) (j : Jc ops ds f μ₀ S₀ w₀ a₀ L a w μ S q)
include hs hck j
theorem read_ok {p : Nat} {d : DO} (hd : ds[p]? = some d) (hL : L d.i = false) (he : ∀ on ∈ edgesAt ops d.i, L on = true) {t : Nat} (ht : t ∈ d.rd) : VRel μ S w ((f p).1.getD t .undef) (a.tmps.getD t undef) := by
  have hp : p < ds.length := (List.getElem?_eq_some_iff.1 hd).1
  by_cases h : ∃ p' d', p' < p ∧ ds[p']? = some d' ∧ d'.ao.dst = some t
  · obtain ⟨p', d', h1, h2, h3⟩ := h
    have hbit := ((okPair_inv ((ckGo_spec hck p d hd).2.2.1 p' d' h1 h2)).2.1 t h3).2 ht
    have hl := mask_closed hck j.closed p p (Nat.le_refl _) d hd he _ hbit
    have := j.slot1 p' d' t h2 h3 hl
    have hk := slots_keep hs t (p - (p' + 1)) (p' + 1) (by omega) fun q' d'' q1 q2 q3 hdst => by
      have := one_writer hck q3 h2 hdst h3
      omega
    rw [show p' + 1 + (p - (p' + 1)) = p by omega] at hk
    rw [hk]
    exact this
  · have hno : ∀ q' d'', q' < p → ds[q']? = some d'' → d''.ao.dst ≠ some t := fun q' d'' h1 h2 h3 => h ⟨q', d'', h1, h2, h3⟩
    have hk := slots_keep hs t p 0 (by omega) fun q' d'' _ q2 q3 => hno q' d'' (by omega) q3
    rw [Nat.zero_add] at hk
    rw [hk]
    refine j.slot0 t fun p' d' hd' hdst => ?_
    rcases Nat.lt_trichotomy p' p with hlt | he' | hlt
    · exact absurd hdst (hno p' d' hlt hd')
    · subst he'
      rw [hd] at hd'
      injection hd' with hd'
      subst hd'
      exact hL
    · have hbit := (okPair_inv ((ckGo_spec hck p' d' hd').2.2.1 p d hlt hd)).2.2 t hdst ht
      cases hl : L d'.i with
      | false => rfl
      | true =>
        have := mask_closed hck j.closed p' p' (Nat.le_refl _) d' hd' (j.closed p' d' hd' hl) _ hbit
        rw [hL] at this; cases this
/-- What holds of the slots behind one more operation. -/
theorem slots_step {p : Nat} {d : DO} (hd : ds[p]? = some d) (hL : L d.i = false) {μ' : Mu} {S' : Nat → Prop} {w' : World} (mono : ∀ v x, VRel μ S w v x → VRel μ' S' w' v x) {v : V} {cv : Value} (hv : (f (p + 1)).1 = putD (f p).1 d.ao.dst v) (hr : VRel μ' S' w' v cv) :
    (∀ (p' : Nat) (d' : DO) (t : Nat), ds[p']? = some d' → d'.ao.dst = some t → (if d'.i = d.i then true else L d'.i) = true → VRel μ' S' w' ((f (p' + 1)).1.getD t .undef) ((a.put d.ao.dst cv).tmps.getD t undef)) ∧
    (∀ (t : Nat), (∀ (p' : Nat) (d' : DO), ds[p']? = some d' → d'.ao.dst = some t → (if d'.i = d.i then true else L d'.i) = false) → VRel μ' S' w' ((f 0).1.getD t .undef) ((a.put d.ao.dst cv).tmps.getD t undef)) := by
  have hp : p < ds.length := (List.getElem?_eq_some_iff.1 hd).1
  have other : ∀ t, d.ao.dst ≠ some t → (a.put d.ao.dst cv).tmps.getD t undef = a.tmps.getD t undef := by
    intro t ht
    cases hdst : d.ao.dst with
    | none => rfl
    | some i =>
      have hne : i ≠ t := fun e => ht (by rw [hdst, e])
      simp [Act.put, Array.getElem?_setIfInBounds_ne hne]
  refine ⟨fun p' d' t hd' hdst hl => ?_, fun t h => ?_⟩
  · by_cases hpp : p' = p
    · subst hpp
      rw [hd] at hd'
      injection hd' with hd'
      subst hd'
      rw [hv, hdst]
      simp only [putD, Act.put]
      by_cases hlt : t < (f p').1.length
      · have hlt' : t < a.tmps.size := by rw [j.size, ← slots_len hs p' (by omega)]; exact hlt
        have e1 : ((f p').1.set t v).getD t .undef = v := by simp [List.getD, hlt]
        have e2 : (a.tmps.setIfInBounds t cv).getD t undef = cv := by simp [hlt']
        rw [e1, e2]
        exact hr
      · have e1 : ((f p').1.set t v).getD t .undef = .undef := by
          simp only [List.getD]
          rw [List.getElem?_eq_none (by simpa using Nat.le_of_not_lt hlt)]
          rfl
        rw [e1]
        exact .undef _
    · have hne : d.ao.dst ≠ some t := fun e => hpp (one_writer hck hd' hd hdst e)
      have hni : d'.i ≠ d.i := fun e => hpp (one_index hck hd' hd e)
      rw [if_neg hni] at hl
      rw [other t hne]
      exact mono _ _ (j.slot1 p' d' t hd' hdst hl)
  · have hne : d.ao.dst ≠ some t := fun e => by
      have := h p d hd e
      rw [if_pos rfl] at this
      cases this
    rw [other t hne]
    refine mono _ _ (j.slot0 t fun p' d' hd' hdst => ?_)
    have := h p' d' hd' hdst
    split at this
    · cases this
    · exact this
/-- What was read, or made, ahead of some effects still holds behind them. -/
theorem pend_ok (hp5 : ∀ (p : Nat) (d : DO), ds[p]? = some d → isE d.ao.op = false → ∀ x ∈ newPend d.ao (f p) (f (p + 1)), ∀ q d', p < q → ds[q]? = some d' → isE d'.ao.op = true → cntE ((ds.drop (p + 1)).take (q - p)) ≤ x.2 → x.1 (f (q + 1)).2 = true)
    {p : Nat} {d : DO} (hd : ds[p]? = some d) (hL : L d.i = false) (hE : isE d.ao.op = false) (hpq : p < q) {g : Heap → Bool} (hg : d.ao.re ≠ 0 → ∃ x ∈ newPend d.ao (f p) (f (p + 1)), x.1 = g ∧ x.2 = d.ao.re)
    (grow : ∀ H L, g H = true → g (H ++ L) = true) (h0 : g (f (p + 1)).2 = true) : g (f q).2 = true := by
  have hq := j.qle
  rcases last_eff ds p (q - (p + 1)) q (by omega) hq with h | ⟨e, d', h1, h2, h3, h4, h5⟩
  · obtain ⟨L', hL'⟩ := heap_grow hs (q - (p + 1)) (p + 1) (by omega) fun p' d' a b hd' => h p' d' (by omega) (by omega) hd'
    rw [show p + 1 + (q - (p + 1)) = q by omega] at hL'
    rw [hL']
    exact grow _ _ h0
  · have hle : L d'.i = true := (j.qeff e d' h3 h4).2 h2
    have hre := reOK_spec (ckGo_spec hck p d hd).2.2.2.1 (e - (p + 1)) d' (by rw [List.getElem?_drop, show p + 1 + (e - (p + 1)) = e by omega]; exact h3) h4
    rcases hre with hbit | hcnt
    · have := mask_closed hck j.closed e e (Nat.le_refl _) d' h3 (j.closed e d' h3 hle) _ hbit
      rw [hL] at this; cases this
    · rw [Nat.zero_add, show e - (p + 1) + 1 = e - p by omega] at hcnt
      have hpos : d.ao.re ≠ 0 := by
        intro hz
        rw [hz] at hcnt
        have : 0 < cntE ((ds.drop (p + 1)).take (e - p)) := by
          unfold cntE
          rw [List.countP_pos_iff]
          refine ⟨d', ?_, h4⟩
          refine List.mem_of_getElem? (i := e - (p + 1)) ?_
          rw [List.getElem?_take, if_pos (by omega), List.getElem?_drop, show p + 1 + (e - (p + 1)) = e by omega]
          exact h3
        omega
      obtain ⟨x, hx, rfl, hx2⟩ := hg hpos
      have := hp5 p d hd hE x hx e d' h1 h3 h4 (by rw [hx2]; exact hcnt)
      obtain ⟨L', hL'⟩ := heap_grow hs (q - (e + 1)) (e + 1) (by omega) fun p' d' a b hd' => h5 p' d' (by omega) (by omega) hd'
      rw [show e + 1 + (q - (e + 1)) = q by omega] at hL'
      rw [hL']
      exact grow _ _ this
end
end
end Go.AM

/- A region that draws its order: sound. -/
set_option linter.unusedVariables false
set_option linter.unusedSimpArgs false
namespace Go.AM
open Go.RowKit
section
variable {P : Program} {call : CallF} {ops : Array Oper} {ds : List DO} {f : Nat → St}

/-- The operations are those of the region. -/
def DOof (P : Program) (ops : Array Oper) (d : DO) : Prop := ∃ o, ops[d.i]? = some o ∧ compOp P o = some d.ao.op ∧ compGuard ops o.guard = some d.ao.guard ∧ d.ao.dst = o.dst ∧ d.rd = slotsOf ops o
variable {μ₀ : Mu} {S₀ : Nat → Prop} {w₀ : World} {a₀ : Act} {L : Nat → Bool} {a : Act} {w : World} {μ : Mu} {S : Nat → Prop} {q : Nat}

theorem ext_grow {μ' : Mu} {S' : Nat → Prop} {H H' : Heap} {w' : World} (e : Ext μ S H w μ' S' H' w') (I : Inv μ' S' H' w') (L : Heap) : Ext μ S H w μ' S' (H' ++ L) w' where
  mu := e.mu
  s := e.s
  snew := e.snew
  hlen := by have := e.hlen; simp; omega
  os := e.os
  tape := e.tape
  output := e.output
  size := e.size
  keep := e.keep
  shape := e.shape
  own := fun b hb ⟨i, x, o, hx, hl, hm⟩ => by
    rw [List.getElem?_append_left (I.dom i b o hm).1] at hx
    exact e.own b hb ⟨i, x, o, hx, hl, hm⟩
  munew := e.munew
theorem eff_next (hs : ∀ (p : Nat) (d : DO), ds[p]? = some d → stepAO call d.ao (f p) = some (f (p + 1))) (hck : ckGo (edgesAt ops) ds [] none = true) (j : Jc ops ds f μ₀ S₀ w₀ a₀ L a w μ S q) {d : DO} (hd : ds[q]? = some d) (hE : isE d.ao.op = true) {q' : Nat} (n1 : q + 1 ≤ q')
    (n3 : ∀ (p' : Nat) (d : DO), q + 1 ≤ p' → p' < q' → ds[p']? = some d → isE d.ao.op = false) :
    ∀ (p' : Nat) (d' : DO), ds[p']? = some d' → isE d'.ao.op = true → ((if d'.i = d.i then true else L d'.i) = true ↔ p' < q') := by
  intro p' d' hd' he'
  by_cases e : d'.i = d.i
  · rw [if_pos e]
    have := one_index hck hd' hd e
    subst this
    simp
    omega
  · rw [if_neg e]
    have hne : p' ≠ q := fun h => by subst h; rw [hd] at hd'; injection hd' with hd'; subst hd'; exact e rfl
    rw [j.qeff p' d' hd' he']
    constructor
    · intro h; omega
    · intro h
      rcases Nat.lt_trichotomy p' q with h1 | h1 | h1
      · exact h1
      · exact absurd h1 hne
      · have := n3 p' d' (by omega) h hd'
        rw [he'] at this; cases this
theorem ph_next (C : CallOK P call) (hs : ∀ (p : Nat) (d : DO), ds[p]? = some d → stepAO call d.ao (f p) = some (f (p + 1))) (hck : ckGo (edgesAt ops) ds [] none = true) (j : Jc ops ds f μ₀ S₀ w₀ a₀ L a w μ S q) {d : DO} (hd : ds[q]? = some d) (hE : isE d.ao.op = true)
    {μ' : Mu} {S' : Nat → Prop} {w' : World} (e : Ext μ S (f q).2 w μ' S' (f (q + 1)).2 w') (I : Inv μ' S' (f (q + 1)).2 w') {q' : Nat} (n1 : q + 1 ≤ q') (n2 : q' ≤ ds.length) (n3 : ∀ (p' : Nat) (d : DO), q + 1 ≤ p' → p' < q' → ds[p']? = some d → isE d.ao.op = false) :
    ∀ (p' : Nat) (d' : DO) (lo : LOp), ds[p']? = some d' → d'.ao.op = .l lo → wants (f p').1 d'.ao.guard = some true → p' < q' → (if d'.i = d.i then true else L d'.i) = false → μ' (f p').2.length = none := by
  intro p' d' lo hd' hlo hwt hlt hl
  have hL : L d'.i = false := by
    split at hl
    · cases hl
    · exact hl
  have len : ∀ k, ∀ k', k ≤ k' → k' ≤ ds.length → (f k).2.length ≤ (f k').2.length := by
    intro k k' hkk hk2
    induction k' with
    | zero => have : k = 0 := by omega
              subst this; exact Nat.le_refl _
    | succ k' ih =>
      by_cases hkk' : k ≤ k'
      · have hdk : ds[k']? = some (ds[k']'(by omega)) := List.getElem?_eq_getElem _
        exact Nat.le_trans (ih hkk' (by omega)) (stepAO_len (fun f args H v H' h => (C f args H v H' h).1.2) (hs k' _ hdk))
      · have : k = k' + 1 := by omega
        subst this; exact Nat.le_refl _
  cases hm : μ' (f p').2.length with
  | none => rfl
  | some pr =>
    exfalso
    rcases Nat.lt_trichotomy p' q with h | h | h
    · have h0 := j.ph p' d' lo hd' hlo hwt h hL
      have := e.munew _ pr h0 hm
      -- the maker's name is below the heap's size by then
      have h1 : (f p').2.length < (f (p' + 1)).2.length := by
        have := hs p' d' hd'
        unfold stepAO at this
        rw [hwt, hlo] at this
        simp only [stepA, Option.map_map, Option.map_eq_some_iff] at this
        obtain ⟨y, -, e⟩ := this
        rw [← e]
        simp
      have hq : q < ds.length := (List.getElem?_eq_some_iff.1 hd).1
      have := len (p' + 1) q (by omega) (by omega)
      omega
    · subst h
      rw [hd] at hd'
      injection hd' with hd'
      subst hd'
      rw [hlo] at hE
      cases hE
    · have := (I.dom _ pr.1 pr.2 hm).1
      have := len (q + 1) p' (by omega) (by omega)
      omega
theorem draw_step (C : CallOK P call) (hs : ∀ (p : Nat) (d : DO), ds[p]? = some d → stepAO call d.ao (f p) = some (f (p + 1))) (hck : ckGo (edgesAt ops) ds [] none = true) (hof : ∀ (p : Nat) (d : DO), ds[p]? = some d → DOof P ops d)
    (hp5 : ∀ (p : Nat) (d : DO), ds[p]? = some d → isE d.ao.op = false → ∀ x ∈ newPend d.ao (f p) (f (p + 1)), ∀ q d', p < q → ds[q]? = some d' → isE d'.ao.op = true → cntE ((ds.drop (p + 1)).take (q - p)) ≤ x.2 → x.1 (f (q + 1)).2 = true)
    (j : Jc ops ds f μ₀ S₀ w₀ a₀ L a w μ S q) {p : Nat} {d : DO} (hd : ds[p]? = some d) (hL : L d.i = false) (he : ∀ on ∈ edgesAt ops d.i, L on = true) {K : Act → World → Prop} {Q : Exit → Act → World → Prop}
    (hk : ∀ a' w' μ' S' q', Jc ops ds f μ₀ S₀ w₀ a₀ (fun i => if i = d.i then true else L i) a' w' μ' S' q' → K a' w') : wpOp P ops Q d.i K a w := by
  have hp : p < ds.length := (List.getElem?_eq_some_iff.1 hd).1
  obtain ⟨o, ho, hop, hg, hdst, hrd⟩ := hof p d hd
  have hst := hs p d hd
  have closed' : ∀ (p' : Nat) (d' : DO), ds[p']? = some d' → (if d'.i = d.i then true else L d'.i) = true → ∀ on ∈ edgesAt ops d'.i, (if on = d.i then true else L on) = true := by
    intro p' d' hd' hl on hon
    split
    · rfl
    · split at hl
      · rename_i e; rw [e] at hon; exact he on hon
      · exact j.closed p' d' hd' hl on hon
  have read : ∀ t ∈ d.rd, VRel μ S w ((f p).1.getD t .undef) (a.tmps.getD t undef) := fun t ht => read_ok hs hck j hd hL he ht
  have hρ : RelO μ S w (ev (f p).1) a.eval o.op.operands.toList := by
    intro x hx y hy
    cases x with
    | tmp t =>
      simp only [compX, Option.some.injEq] at hy; subst hy
      refine read t ?_
      rw [hrd]
      exact List.mem_append_left _ (List.mem_filterMap.2 ⟨.tmp t, hx, rfl⟩)
    | const z =>
      simp only [compX, Option.map_eq_some_iff] at hy
      obtain ⟨v, hv, rfl⟩ := hy
      exact absv_rel hv
    | func g =>
      simp only [compX, Option.some.injEq] at hy; subst hy
      exact .fn g [] [] #[] #[] rfl (fun j v hj => by simp at hj) rfl (fun j v hj => by simp at hj)
    | global g =>
      simp only [compX, Option.map_eq_some_iff] at hy
      obtain ⟨cs, hg, rfl⟩ := hy
      exact laid_rel j.inv.laid hg
  have hgs : ∀ b, wants (f p).1 d.ao.guard = some b → ∀ t c, d.ao.guard = some (t, c) → VRel μ S w ((f p).1.getD t .undef) (a.tmps.getD t undef) ∧ t < a.tmps.size := by
    intro b hb t c hgt
    refine ⟨read t ?_, ?_⟩
    · rw [hrd]
      refine List.mem_append_right _ ?_
      rw [hgt] at hg
      cases hgd : o.guard with
      | none => rw [hgd] at hg; simp [compGuard] at hg
      | some jw =>
        rw [hgd] at hg
        simp only [compGuard, Option.map_eq_some_iff, Option.some.injEq, Prod.mk.injEq] at hg
        obtain ⟨t', ht', e1, e2⟩ := hg
        subst e1
        simp only
        rw [ht']
        simp
    · rw [hgt] at hb
      have := wants_lt hb
      rw [j.size, ← slots_len hs p (by omega)]
      exact this
  have hdef : ∀ (x : Value), (a.put o.dst x).defers = a₀.defers := fun x => by
    rw [← j.defers]
    cases o.dst <;> rfl
  have hsz : ∀ (x : Value), (a.put o.dst x).tmps.size = (f 0).1.length := fun x => by
    rw [← j.size]
    cases o.dst <;> simp [Act.put]
  -- where a float stands
  have float_q : isE d.ao.op = false → p < q := by
    intro hE
    rcases Nat.lt_or_ge p q with h | h
    · exact h
    · exfalso
      obtain ⟨d', hd', he'⟩ := j.qat (by omega)
      have hne : q ≠ p := fun e => by subst e; rw [hd] at hd'; injection hd' with hd'; subst hd'; rw [hE] at he'; cases he'
      have := eff_listed hck j.closed p p (Nat.le_refl _) d hd he (p - q) q d' (by omega) (Nat.le_refl _) hd' he'
      have := (j.qeff q d' hd' he').1 this
      omega
  have eff_q : isE d.ao.op = true → q = p := by
    intro hE
    rcases Nat.lt_trichotomy q p with h | h | h
    · exfalso
      obtain ⟨d', hd', he'⟩ := j.qat (by omega)
      have := eff_listed hck j.closed p p (Nat.le_refl _) d hd he (p - q) q d' h (Nat.le_refl _) hd' he'
      have := (j.qeff q d' hd' he').1 this
      omega
    · exact h
    · have := (j.qeff p d hd hE).2 h
      rw [hL] at this; cases this
  have qeff_float : isE d.ao.op = false → ∀ (p' : Nat) (d' : DO), ds[p']? = some d' → isE d'.ao.op = true → ((if d'.i = d.i then true else L d'.i) = true ↔ p' < q) := by
    intro hE p' d' hd' he'
    have hne : d'.i ≠ d.i := fun e => by
      have := one_index hck hd' hd e
      subst this
      rw [hd] at hd'
      injection hd' with hd'
      subst hd'
      rw [hE] at he'; cases he'
    rw [if_neg hne]
    exact j.qeff p' d' hd' he'
  have ph_keep : ∀ (p' : Nat) (d' : DO) (lo : LOp), ds[p']? = some d' → d'.ao.op = .l lo → wants (f p').1 d'.ao.guard = some true → p' < q → (if d'.i = d.i then true else L d'.i) = false → μ (f p').2.length = none := by
    intro p' d' lo hd' hlo hwt hlt hl
    refine j.ph p' d' lo hd' hlo hwt hlt ?_
    split at hl
    · cases hl
    · exact hl
  unfold wpOp
  rw [ho]
  simp only
  unfold stepAO at hst
  split at hst
  · -- wanted
    rename_i hw
    rw [wanted_of hg (hgs _ hw) hw]
    simp only [Option.map_eq_some_iff] at hst
    obtain ⟨⟨v, H1⟩, h1, h2⟩ := hst
    simp only [if_true]
    left
    have hv : (f (p + 1)).1 = putD (f p).1 d.ao.dst v := by rw [← h2]
    have hH : (f (p + 1)).2 = H1 := by rw [← h2]
    cases hao : d.ao.op with
    | p po =>
      have hE : isE d.ao.op = false := by rw [hao]; rfl
      rw [hao] at h1 hop
      simp only [stepA, Option.map_eq_some_iff, Prod.mk.injEq] at h1
      obtain ⟨v', h3, rfl, -⟩ := h1
      obtain ⟨cv, hr, rr⟩ := P_sound hop hρ (fun _ => rfl) (fun _ => rfl) h3 w
      unfold Oper.wp
      rw [hr]
      obtain ⟨s1, s0⟩ := slots_step hs hck j hd hL (fun v x h => h) hv rr
      rw [hdst] at s1 s0
      exact hk _ w μ S q ⟨closed', hsz _, s1, s0, j.qle, qeff_float hE, j.qat, j.inv, j.ext, ph_keep, hdef _⟩
    | r ro =>
      have hE : isE d.ao.op = false := by rw [hao]; rfl
      have hpq := float_q hE
      rw [hao] at h1 hop
      simp only [stepA, Option.map_eq_some_iff, Prod.mk.injEq] at h1
      obtain ⟨v', h3, rfl, hHH⟩ := h1
      have hq : stepR (ev (f p).1) (f q).2 ro = some v' := by
        have := pend_ok hs hck j hp5 hd hL hE hpq (g := fun H => decide (stepR (ev (f p).1) H ro = stepR (ev (f p).1) (f p).2 ro)) (fun hne => by
          unfold newPend
          rw [if_neg hne, hao, hw]
          exact ⟨_, List.mem_singleton.2 rfl, rfl, rfl⟩) (fun H L h => by
          simp only [decide_eq_true_eq] at h ⊢
          rw [h3] at h ⊢
          exact stepR_grow L h) (by
          simp only [decide_eq_true_eq]
          rw [hH, ← hHH])
        simp only [decide_eq_true_eq] at this
        rw [this, h3]
      obtain ⟨cv, hr, rr⟩ := R_sound j.inv hop hρ hq
      unfold Oper.wp
      rw [hr]
      obtain ⟨s1, s0⟩ := slots_step hs hck j hd hL (fun v x h => h) hv rr
      rw [hdst] at s1 s0
      exact hk _ w μ S q ⟨closed', hsz _, s1, s0, j.qle, qeff_float hE, j.qat, j.inv, j.ext, ph_keep, hdef _⟩
    | l lo =>
      have hE : isE d.ao.op = false := by rw [hao]; rfl
      have hpq := float_q hE
      rw [hao] at h1 hop
      simp only [stepA, Option.map_eq_some_iff, Prod.mk.injEq] at h1
      obtain ⟨⟨x, v'⟩, h3, rfl, hHH⟩ := h1
      simp only at hHH
      have hid := j.ph p d lo hd hao hw hpq hL
      have hxx : (f (p + 1)).2[(f p).2.length]? = some x := by rw [hH, ← hHH]; simp
      have hq : (f q).2[(f p).2.length]? = some x := by
        have := pend_ok hs hck j hp5 hd hL hE hpq (g := fun H => decide (H[(f p).2.length]? = (f (p + 1)).2[(f p).2.length]?)) (fun hne => by
          unfold newPend
          rw [if_neg hne, hao, hw]
          exact ⟨_, List.mem_singleton.2 rfl, rfl, rfl⟩) (fun H L h => by
          simp only [decide_eq_true_eq] at h ⊢
          rw [hxx] at h ⊢
          exact get_grow L h) (by simp)
        simp only [decide_eq_true_eq] at this
        rw [this, hxx]
      obtain ⟨hl, cv, obj, hr, hor, rr⟩ := L_sound j.inv.sdom hop hρ hid h3
      have I2 := j.inv.lay hq hid obj hor
      unfold Oper.wp
      rw [hr]
      have mono : ∀ v x, VRel μ S w v x → VRel (μ.lay (f p).2.length w.heap.size) S (w.alloc obj) v x := fun v x h => h.lay j.inv.sdom hid obj
      obtain ⟨s1, s0⟩ := slots_step hs hck j hd hL mono hv rr
      rw [hdst] at s1 s0
      have hlen0 : (f 0).2.length ≤ (f p).2.length := by
        have : ∀ k, k ≤ ds.length → (f 0).2.length ≤ (f k).2.length := by
          intro k
          induction k with
          | zero => intro _; exact Nat.le_refl _
          | succ k ih =>
            intro hk'
            have hdk : ds[k]? = some (ds[k]'(by omega)) := List.getElem?_eq_getElem _
            exact Nat.le_trans (ih (by omega)) (stepAO_len (fun f args H v H' h => (C f args H v H' h).1.2) (hs k _ hdk))
        exact this p (by omega)
      have newb : ∀ {b : Nat}, b < w₀.heap.size → b < w.heap.size := fun hb => Nat.lt_of_lt_of_le hb j.ext.size
      refine hk _ _ _ S q ⟨closed', hsz _, s1, s0, j.qle, qeff_float hE, j.qat, I2, ?_, ?_, hdef _⟩
      · refine ⟨fun i p h => Mu.lay_of hid (j.ext.mu i p h), j.ext.s, j.ext.snew, j.ext.hlen, j.ext.os, j.ext.tape, j.ext.output, by have := j.ext.size; simp; omega, fun b hb hno => (heap_alloc_lt obj (newb hb)).trans (j.ext.keep b hb hno), fun b c e fz h => ?_, fun b hb ⟨i, y, o', hy, hly, hm⟩ => ?_, fun i pr h h' => ?_⟩
        · obtain ⟨c', fz', k1, k2⟩ := j.ext.shape b c e fz h
          exact ⟨c', _, (heap_alloc_lt obj (heap_lt k1)).trans k1, k2⟩
        · rcases Mu.lay_inv hm with ⟨rfl, e⟩ | ⟨-, hm⟩
          · injection e with e1 e2
            have := newb hb
            omega
          · exact j.ext.own b hb ⟨i, y, o', hy, hly, hm⟩
        · rcases Mu.lay_inv h' with ⟨rfl, -⟩ | ⟨-, h'⟩
          · exact hlen0
          · exact j.ext.munew i pr h h'
      · intro p' d' lo' hd' hlo hwt hlt hl
        have hne : d'.i ≠ d.i := fun e => by rw [if_pos e] at hl; cases hl
        have h0 := ph_keep p' d' lo' hd' hlo hwt hlt hl
        unfold Mu.lay
        rw [if_neg]
        · exact h0
        · -- two makers have unlike names
          intro e
          have hpp : p' ≠ p := fun e' => by subst e'; rw [hd] at hd'; injection hd' with hd'; subst hd'; exact hne rfl
          have grow1 : ∀ k, k ≤ ds.length → ∀ k', k ≤ k' → k' ≤ ds.length → (f k).2.length ≤ (f k').2.length := by
            intro k hk1 k' hkk hk2
            induction k' with
            | zero => have : k = 0 := by omega
                      subst this; exact Nat.le_refl _
            | succ k' ih =>
              by_cases hkk' : k ≤ k'
              · have hdk : ds[k']? = some (ds[k']'(by omega)) := List.getElem?_eq_getElem _
                exact Nat.le_trans (ih hkk' (by omega)) (stepAO_len (fun f args H v H' h => (C f args H v H' h).1.2) (hs k' _ hdk))
              · have : k = k' + 1 := by omega
                subst this; exact Nat.le_refl _
          have bump : ∀ (k : Nat) (dk : DO) (lk : LOp), ds[k]? = some dk → dk.ao.op = .l lk → wants (f k).1 dk.ao.guard = some true → (f k).2.length < (f (k + 1)).2.length := by
            intro k dk lk hdk hlk hwk
            have := hs k dk hdk
            unfold stepAO at this
            rw [hwk, hlk] at this
            simp only [stepA, Option.map_map, Option.map_eq_some_iff] at this
            obtain ⟨y, -, e⟩ := this
            rw [← e]
            simp
          have hp' : p' < ds.length := (List.getElem?_eq_some_iff.1 hd').1
          rcases Nat.lt_trichotomy p' p with h | h | h
          · have := bump p' d' lo' hd' hlo hwt
            have := grow1 (p' + 1) (by omega) p (by omega) (by omega)
            omega
          · exact hpp h
          · have := bump p d lo hd hao hw
            have := grow1 (p + 1) (by omega) p' (by omega) (by omega)
            omega
    | e eo =>
      have hE : isE d.ao.op = true := by rw [hao]; rfl
      have hqp := eff_q hE
      subst hqp
      rw [hao] at h1 hop
      have hE1 : stepE call (ev (f q).1) (f q).2 eo = some (v, H1) := h1
      refine E_sound C j.inv hop hρ hE1 fun cv μ' S' w' r1 r2 r3 => ?_
      obtain ⟨q', n1, n2, n3, n4⟩ := next_eff ds (ds.length - (q + 1)) (q + 1) (by omega)
      obtain ⟨L', hL'⟩ := heap_grow hs (q' - (q + 1)) (q + 1) (by omega) fun p' d' a b hd' => n3 p' d' (by omega) (by omega) hd'
      rw [show q + 1 + (q' - (q + 1)) = q' by omega, hH] at hL'
      have mono : ∀ v x, VRel μ S w v x → VRel μ' S' w' v x := fun v x h => h.ext j.inv r3
      obtain ⟨s1, s0⟩ := slots_step hs hck j hd hL mono hv r1
      rw [hdst] at s1 s0
      refine hk _ w' μ' S' q' ⟨closed', hsz _, s1, s0, n2, eff_next hs hck j hd hE n1 n3, n4, by rw [hL']; exact r2.grow L', by rw [hL']; exact ext_grow (j.ext.trans r3) r2 L', ?_, hdef _⟩
      exact ph_next C hs hck j hd hE (by rw [hH]; exact r3) (by rw [hH]; exact r2) n1 n2 n3
  · -- not wanted
    rename_i hw
    rw [wanted_of hg (hgs _ hw) hw]
    simp only [Option.some.injEq] at hst
    simp only [Bool.false_eq_true, if_false]
    have hv : (f (p + 1)).1 = putD (f p).1 d.ao.dst (.tup []) := by rw [← hst]
    have hH : (f (p + 1)).2 = (f p).2 := by rw [← hst]
    obtain ⟨s1, s0⟩ := slots_step hs hck j hd hL (μ' := μ) (S' := S) (w' := w) (fun v x h => h) hv (cv := undef) (.tup [] #[] rfl (fun j v hj => by simp at hj))
    rw [hdst] at s1 s0
    cases hE : isE d.ao.op with
    | false => exact hk _ w μ S q ⟨closed', hsz _, s1, s0, j.qle, qeff_float hE, j.qat, j.inv, j.ext, ph_keep, hdef _⟩
    | true =>
      have hqp := eff_q hE
      subst hqp
      obtain ⟨q', n1, n2, n3, n4⟩ := next_eff ds (ds.length - (q + 1)) (q + 1) (by omega)
      obtain ⟨L', hL'⟩ := heap_grow hs (q' - (q + 1)) (q + 1) (by omega) fun p' d' a b hd' => n3 p' d' (by omega) (by omega) hd'
      rw [show q + 1 + (q' - (q + 1)) = q' by omega, hH] at hL'
      refine hk _ w μ S q' ⟨closed', hsz _, s1, s0, n2, eff_next hs hck j hd hE n1 n3, n4, by rw [hL']; exact j.inv.grow L', by rw [hL']; exact ext_grow j.ext j.inv L', ?_, hdef _⟩
      exact ph_next C hs hck j hd hE (by rw [hH]; exact Ext.refl _ _ _ _) (by rw [hH]; exact j.inv) n1 n2 n3
  · cases hst
end
end Go.AM

/- A region that draws its order: the whole. -/
set_option linter.unusedVariables false
set_option linter.unusedSimpArgs false
namespace Go.AM
open Go.RowKit
def reCalc (i : Nat) : List DO → Nat → Nat → Nat
  | [], _, best => best
  | d :: r, c, best => if isE d.ao.op then reCalc i r (c + 1) (if d.m.testBit i then best else c + 1) else reCalc i r c best
def mkDOs (P : Program) (ops : Array Oper) (M : Nat → Nat) : List Nat → Option (List DO)
  | [] => some []
  | i :: r => (ops[i]?).bind fun o => (compOp P o).bind fun op => (compGuard ops o.guard).bind fun g => (mkDOs P ops M r).map fun ds =>
      { ao := { dst := o.dst, op, guard := g, re := reCalc i ds 0 0 }, i, rd := slotsOf ops o, m := M i } :: ds
def isEff (P : Program) (ops : Array Oper) (i : Nat) : Bool :=
  match (ops[i]?).bind (compOp P) with
  | some (.e _) => true
  | _ => false
/-- In which order the machine goes: what hangs on no effect, the first effect, what hangs on it, and so on. -/
def ordOf (P : Program) (ops : Array Oper) (M : Nat → Nat) : List Nat :=
  let effs := (List.range ops.size).filter (isEff P ops)
  let floats := ((List.range ops.size).filter fun i => !isEff P ops i).map fun i => (i, effs.countP fun e => (M i).testBit e)
  (List.range (effs.length + 1)).flatMap fun k => (floats.filterMap fun x => if x.2 = k then some x.1 else none) ++ (effs[k]?).toList
def compDraw (P : Program) (ops : Array Oper) : Option (List DO) :=
  let B := Region.before ops
  let M := fun i => B.getD i 0
  (mkDOs P ops M (ordOf P ops M)).bind fun ds => if ckGo (edgesAt ops) ds [] none && (List.range ops.size).all (fun i => ds.any (·.i == i)) then some ds else none
section
variable {P : Program} {call : CallF} {ops : Array Oper} {ds : List DO} {f : Nat → St}

theorem mkDOs_of {M : Nat → Nat} : ∀ {l : List Nat} {ds : List DO}, mkDOs P ops M l = some ds → ∀ (p : Nat) (d : DO), ds[p]? = some d → DOof P ops d
  | [], ds, h, p, d, hd => by simp [mkDOs] at h; subst h; simp at hd
  | i :: l, ds, h, p, d, hd => by
    simp only [mkDOs, Option.bind_eq_some_iff, Option.map_eq_some_iff] at h
    obtain ⟨o, ho, op, hop, g, hg, ds', hds, rfl⟩ := h
    cases p with
    | zero =>
      simp at hd; subst hd
      exact ⟨o, ho, hop, hg, rfl, rfl⟩
    | succ p => exact mkDOs_of hds p d (by simpa using hd)
theorem compDraw_spec (h : compDraw P ops = some ds) : ckGo (edgesAt ops) ds [] none = true ∧ (∀ i, i < ops.size → ∃ (p : Nat) (d : DO), ds[p]? = some d ∧ d.i = i) ∧ ∀ (p : Nat) (d : DO), ds[p]? = some d → DOof P ops d := by
  simp only [compDraw, Option.bind_eq_some_iff] at h
  obtain ⟨ds', h1, h2⟩ := h
  split at h2
  · rename_i hc
    injection h2 with h2; subst h2
    simp only [Bool.and_eq_true] at hc
    refine ⟨hc.1, fun i hi => ?_, mkDOs_of h1⟩
    have := List.all_eq_true.1 hc.2 i (by simpa using hi)
    rw [List.any_eq_true] at this
    obtain ⟨d, hd, he⟩ := this
    obtain ⟨p, hp⟩ := List.getElem?_of_mem hd
    exact ⟨p, d, hp, by simpa using he⟩
  · cases h2
variable {μ₀ : Mu} {S₀ : Nat → Prop} {w₀ : World} {a₀ : Act}

theorem draw_any (C : CallOK P call) (hs : ∀ (p : Nat) (d : DO), ds[p]? = some d → stepAO call d.ao (f p) = some (f (p + 1))) (hck : ckGo (edgesAt ops) ds [] none = true) (hof : ∀ (p : Nat) (d : DO), ds[p]? = some d → DOof P ops d)
    (hcov : ∀ i, i < ops.size → ∃ (p : Nat) (d : DO), ds[p]? = some d ∧ d.i = i)
    (hp5 : ∀ (p : Nat) (d : DO), ds[p]? = some d → isE d.ao.op = false → ∀ x ∈ newPend d.ao (f p) (f (p + 1)), ∀ q d', p < q → ds[q]? = some d' → isE d'.ao.op = true → cntE ((ds.drop (p + 1)).take (q - p)) ≤ x.2 → x.1 (f (q + 1)).2 = true)
    {Q : Exit → Act → World → Prop} (hk : ∀ a' μ' S' w', VRels μ' S' w' (f ds.length).1 a'.tmps.toList → Inv μ' S' (f ds.length).2 w' → Ext μ₀ S₀ (f 0).2 w₀ μ' S' (f ds.length).2 w' → a'.defers = a₀.defers → Q .normal a' w') :
    ∀ (fuel : Nat) (listed : Array Bool) (a : Act) (w : World) (μ : Mu) (S : Nat → Prop) (q : Nat), listed.size = ops.size → (List.range ops.size).countP (fun i => !listed.getD i false) = fuel →
      Jc ops ds f μ₀ S₀ w₀ a₀ (fun i => listed.getD i false) a w μ S q → wpAny P .any ops Q fuel listed a w := by
  -- what is behind the last
  have final : ∀ (listed : Array Bool) (a : Act) (w : World) (μ : Mu) (S : Nat → Prop) (q : Nat), Jc ops ds f μ₀ S₀ w₀ a₀ (fun i => listed.getD i false) a w μ S q → (∀ (p : Nat) (d : DO), ds[p]? = some d → listed.getD d.i false = true) → Q .normal a w := by
    intro listed a w μ S q j hall
    have hq : q = ds.length := by
      rcases Nat.lt_or_ge q ds.length with h | h
      · obtain ⟨d, hd, he⟩ := j.qat h
        have := (j.qeff q d hd he).1 (hall q d hd)
        omega
      · have := j.qle; omega
    subst hq
    refine hk a μ S w (VRels.of ?_ fun t v hv => ?_) j.inv j.ext j.defers
    · have := slots_len hs ds.length (Nat.le_refl _)
      rw [this, ← j.size]; simp
    · have hget : (f ds.length).1.getD t .undef = v := by simp [List.getD, hv]
      rw [← hget]
      have key : VRel μ S w ((f ds.length).1.getD t .undef) (a.tmps.getD t undef) := by
        by_cases h : ∃ (p : Nat) (d : DO), ds[p]? = some d ∧ d.ao.dst = some t
        · obtain ⟨p, d, hd, hdst⟩ := h
          have hp : p < ds.length := (List.getElem?_eq_some_iff.1 hd).1
          have h1 := j.slot1 p d t hd hdst (hall p d hd)
          have h2 := slots_keep hs t (ds.length - (p + 1)) (p + 1) (by omega) fun q' d' a b hd' hdst' => by
            have := one_writer hck hd' hd hdst' hdst
            omega
          rw [show p + 1 + (ds.length - (p + 1)) = ds.length by omega] at h2
          rw [h2]; exact h1
        · have h1 := j.slot0 t fun p d hd hdst => absurd ⟨p, d, hd, hdst⟩ h
          have h2 := slots_keep hs t ds.length 0 (by omega) fun q' d' _ _ hd' hdst' => h ⟨q', d', hd', hdst'⟩
          rw [Nat.zero_add] at h2
          rw [h2]; exact h1
      simpa using key
  have readyB : ∀ (listed : Array Bool) (i : Nat), listed.size = ops.size → (i ∈ Region.ready .any ops listed ↔ i < ops.size ∧ listed.getD i false = false ∧ ∀ on ∈ edgesAt ops i, listed.getD on false = true) := by
    intro listed i hsz
    unfold Region.ready
    rw [List.mem_filter, List.mem_range]
    constructor
    · rintro ⟨hi, h⟩
      have ho : ops[i]? = some ops[i] := Array.getElem?_eq_getElem hi
      rw [ho] at h
      simp only [Option.map_some, Option.getD_some, Bool.and_eq_true, Bool.not_eq_true'] at h
      have hli : listed[i]? = some (listed[i]'(by omega)) := Array.getElem?_eq_getElem (by omega)
      refine ⟨hi, ?_, fun on hon => ?_⟩
      · have h1 := h.1
        simp [hli] at h1 ⊢
        exact h1
      · unfold edgesAt at hon
        rw [ho] at hon
        simp only [Option.map_some, Option.getD_some, edgesOf, List.mem_filterMap] at hon
        obtain ⟨e, he, hb⟩ := hon
        split at hb
        · rename_i hbind
          injection hb with hb; subst hb
          have := Array.all_eq_true'.1 h.2 e (by simpa using he)
          rw [hbind] at this
          simpa using this
        · cases hb
    · rintro ⟨hi, h1, h2⟩
      have ho : ops[i]? = some ops[i] := Array.getElem?_eq_getElem hi
      have hli : listed[i]? = some (listed[i]'(by omega)) := Array.getElem?_eq_getElem (by omega)
      refine ⟨hi, ?_⟩
      rw [ho]
      simp only [Option.map_some, Option.getD_some, Bool.and_eq_true, Bool.not_eq_true']
      refine ⟨?_, ?_⟩
      · simp [hli] at h1 ⊢
        exact h1
      · rw [Array.all_eq_true']
        intro e he
        cases hb : Region.binds .any e with
        | false => rfl
        | true =>
          have := h2 e.on (by
            unfold edgesAt
            rw [ho]
            simp only [Option.map_some, Option.getD_some, edgesOf, List.mem_filterMap]
            exact ⟨e, by simpa using he, by rw [if_pos hb]⟩)
          simpa using this
  have noneReady : ∀ (listed : Array Bool), listed.size = ops.size → Region.ready .any ops listed = [] → ∀ (p : Nat) (d : DO), ds[p]? = some d → listed.getD d.i false = true := by
    intro listed hsz hr p
    induction p using Nat.strongRecOn with
    | _ p ih =>
      intro d hd
      cases hl : listed.getD d.i false with
      | true => rfl
      | false =>
        exfalso
        obtain ⟨o, ho, -⟩ := hof p d hd
        have hi : d.i < ops.size := (Array.getElem?_eq_some_iff.1 ho).1
        have : d.i ∈ Region.ready .any ops listed := (readyB listed d.i hsz).2 ⟨hi, hl, fun on hon => by
          rcases (ckGo_spec hck p d hd).1 on hon with ⟨x, hx, -⟩ | ⟨q, d', hq, hd', e⟩
          · simp at hx
          · rw [← e]; exact ih q hq d' hd'⟩
        rw [hr] at this
        simp at this
  intro fuel
  induction fuel with
  | zero =>
    intro listed a w μ S q hsz hcnt j
    have hall : ∀ (p : Nat) (d : DO), ds[p]? = some d → listed.getD d.i false = true := by
      intro p d hd
      obtain ⟨o, ho, -⟩ := hof p d hd
      have hi : d.i < ops.size := (Array.getElem?_eq_some_iff.1 ho).1
      rw [List.countP_eq_zero] at hcnt
      have := hcnt d.i (by simpa using hi)
      simpa using this
    refine ⟨?_, final listed a w μ S q j hall⟩
    rw [List.eq_nil_iff_forall_not_mem]
    intro i hi
    obtain ⟨h1, h2, -⟩ := (readyB listed i hsz).1 hi
    obtain ⟨p, d, hd, e⟩ := hcov i h1
    have := hall p d hd
    rw [e, h2] at this
    cases this
  | succ fuel ih =>
    intro listed a w μ S q hsz hcnt j
    refine ⟨fun hr => final listed a w μ S q j (noneReady listed hsz hr), fun i hi => ?_⟩
    obtain ⟨h1, h2, h3⟩ := (readyB listed i hsz).1 hi
    obtain ⟨p, d, hd, rfl⟩ := hcov i h1
    refine draw_step C hs hck hof hp5 j hd h2 h3 fun a' w' μ' S' q' j' => ih _ a' w' μ' S' q' (by simpa using hsz) ?_ ?_
    · have hupd : ∀ i, i < ops.size → (listed.setIfInBounds d.i true).getD i false = if i = d.i then true else listed.getD i false := by
        intro i hi
        by_cases e : i = d.i
        · subst e
          simp [hsz, hi]
        · rw [if_neg e]
          simp [Array.getElem?_setIfInBounds_ne (Ne.symm e)]
      have : ∀ (l : List Nat), l.Nodup → (∀ x ∈ l, x < ops.size) → d.i ∈ l → l.countP (fun i => !listed.getD i false) = l.countP (fun i => !(listed.setIfInBounds d.i true).getD i false) + 1 := by
        intro l
        induction l with
        | nil => intro _ _ h; simp at h
        | cons x l ihl =>
          intro hnd hlt hm
          rw [List.nodup_cons] at hnd
          simp only [List.countP_cons]
          have hx := hupd x (hlt x List.mem_cons_self)
          by_cases e : x = d.i
          · subst e
            have hrest : l.countP (fun i => !listed.getD i false) = l.countP (fun i => !(listed.setIfInBounds d.i true).getD i false) := by
              apply List.countP_congr
              intro y hy
              have hne : y ≠ d.i := fun h => hnd.1 (h ▸ hy)
              rw [hupd y (hlt y (List.mem_cons_of_mem _ hy)), if_neg hne]
            rw [hx, if_pos rfl, hrest, h2]
            simp
          · have hm' : d.i ∈ l := by
              rcases List.mem_cons.1 hm with h | h
              · exact absurd h.symm e
              · exact h
            rw [hx, if_neg e, ihl hnd.2 (fun y hy => hlt y (List.mem_cons_of_mem _ hy)) hm']
            omega
      have := this (List.range ops.size) List.nodup_range (fun x hx => by simpa using hx) (by simpa using h1)
      omega
    · have e : (fun i => (listed.setIfInBounds d.i true).getD i false) = fun i => if i = d.i then true else listed.getD i false := by
        funext i
        by_cases e : i = d.i
        · subst e
          simp [hsz, h1]
        · rw [if_neg e]
          simp [Array.getElem?_setIfInBounds_ne (Ne.symm e)]
      rw [e]
      exact j'
theorem draw_sound (C : CallOK P call) (hds : compDraw P ops = some ds) {st st' : St} (h : runDraw call (ds.map (·.ao)) [] st = some st') {μ : Mu} {S : Nat → Prop} {w : World} {a : Act} (I : Inv μ S st.2 w) (hsl : VRels μ S w st.1 a.tmps.toList)
    {Q : Exit → Act → World → Prop} (hk : ∀ a' μ' S' w', VRels μ' S' w' st'.1 a'.tmps.toList → Inv μ' S' st'.2 w' → Ext μ S st.2 w μ' S' st'.2 w' → a'.defers = a.defers → Q .normal a' w') :
    wpAny P .any ops Q ops.size (Array.replicate ops.size false) a w := by
  obtain ⟨hck, hcov, hof⟩ := compDraw_spec hds
  obtain ⟨f, f0, fn, hs, -, hp5⟩ := runDraw_states h
  subst f0; subst fn
  obtain ⟨q, n1, n2, n3, n4⟩ := next_eff ds ds.length 0 (by omega)
  obtain ⟨L', hL'⟩ := heap_grow hs q 0 (by omega) fun p' d' a b hd' => n3 p' d' (by omega) (by omega) hd'
  rw [Nat.zero_add] at hL'
  have hrep : ∀ i, (Array.replicate ops.size false).getD i false = false := fun i => by
    by_cases h : i < ops.size <;> simp [h]
  refine draw_any (μ₀ := μ) (S₀ := S) (w₀ := w) (a₀ := a) C hs hck hof hcov hp5 hk ops.size _ a w μ S q (by simp) ?_ ?_
  · rw [List.countP_eq_length.2]
    · simp
    · intro i hi
      simp [hrep i]
  · refine ⟨fun p d hd hl => (by rw [hrep] at hl; cases hl), (by have := hsl.length; simpa using this.symm), fun p d t hd _ hl => (by rw [hrep] at hl; cases hl), fun t _ => (by simpa using getD_rel hsl t), n2, fun p d hd he => ?_, n4, (by rw [hL']; exact I.grow L'), (by rw [hL']; exact ext_grow (Ext.refl _ _ _ _) I L'), fun p d lo hd hlo hw hlt _ => ?_, rfl⟩
    · rw [hrep]
      constructor
      · intro h; cases h
      · intro hlt
        have := n3 p d (by omega) hlt hd
        rw [he] at this; cases this
    · cases hm : μ (f p).2.length with
      | none => rfl
      | some pr =>
        exfalso
        have h1 := (I.dom _ pr.1 pr.2 hm).1
        have : (f 0).2.length ≤ (f p).2.length := by
          obtain ⟨L2, h2⟩ := heap_grow hs p 0 (by omega) fun p' d' a b hd' => n3 p' d' (by omega) (by omega) hd'
          rw [Nat.zero_add] at h2
          rw [h2]; simp
        omega
end
end Go.AM

/- Code and functions: from the model's to the machine's; sound. -/
set_option linter.unusedVariables false
set_option linter.unusedSimpArgs false
namespace Go.AM
open Go.RowKit
def compC (P : Program) : Code → Option C
  | .skip => some .skip
  | .region _ ops false => some (((compAOs P ops ops.toList).map C.reg).getD .stuck)
  | .region _ ops true => some (((compDraw P ops).map fun ds => C.draw (ds.map (·.ao))).getD .stuck)
  | .seq a b => (compC P a).bind fun x => (compC P b).map fun y => .seq x y
  | .cond c a b => (compX c).bind fun z => (compC P a).bind fun x => (compC P b).map fun y => .cond z x y
  | .block id c => (compC P c).map (.block id)
  | .loop c => (compC P c).map .loop
  | .exit id => some (.exit id)
  | .ret => some .ret
  | _ => some .stuck
def compRes (P : Program) : List ResultVar → Option (List Res)
  | [] => some []
  | .tmp t :: r => (compRes P r).map (.t t :: ·)
  | .cell a t :: r => (shOf P t).bind fun sh => (compRes P r).map (.cell a sh :: ·)
def compFn (P : Program) (f : Nat) (pure : Bool) (rm : RM) : Option AF :=
  (P.funcs[f]?).bind fun fn => fn.body.bind fun c => (compC P c).bind fun body => (compRes P fn.results.toList).bind fun res =>
    if fn.name == "runtime.NumGoroutine" then none else some { np := fn.params.size + fn.nfree, nt := fn.ntmps, pure, rm, res, body }
/-- A result, read. -/
def rdRes (tm : Array Value) : ResultVar → Sem Value
  | .tmp t => pure (tm.getD t undef)
  | .cell b t => do loadVar t (← asAddr (tm.getD b undef))
theorem results_eq (fn : Func) (tm : Array Value) : results fn tm = (do let vs ← fn.results.mapM (rdRes tm); pure (if h : vs.size = 1 then vs[0] else .tuple vs)) := by
  unfold results
  have : (fun (x : ResultVar) => (match x with | .tmp t => pure (tm.getD t undef) | .cell a t => do loadVar t (← asAddr (tm.getD a undef)) : Sem Value)) = rdRes tm := by
    funext x; cases x <;> rfl
  exact congrArg (fun g => (do let vs ← fn.results.mapM g; pure (if h : vs.size = 1 then vs[0] else .tuple vs) : Sem Value)) this
def toExit : X → Exit
  | .norm => .normal
  | .exit id => .exit id
  | .ret => .ret
section
variable {P : Program} {call : CallF}

theorem code_sound (hm : P.follows .mixedOrders = true) (C : CallOK P call) (n : Nat) : ∀ (c : Code) (ac : AM.C), compC P c = some ac → ∀ (st : St) (x : X) (st' : St), runC call n ac st = some (x, st') → ∀ (μ : Mu) (S : Nat → Prop) (w : World) (a : Act), Inv μ S st.2 w → VRels μ S w st.1 a.tmps.toList →
    ∀ (Q : Exit → Act → World → Prop), (∀ a' μ' S' w', VRels μ' S' w' st'.1 a'.tmps.toList → Inv μ' S' st'.2 w' → Ext μ S st.2 w μ' S' st'.2 w' → a'.defers = a.defers → Q (toExit x) a' w') → c.wp P Q a w := by
  intro c
  induction c with
  | skip =>
    intro ac hc st x st' h μ S w a I hs Q hk
    simp only [compC, Option.some.injEq] at hc; subst hc
    simp only [runC, Option.some.injEq, Prod.mk.injEq] at h
    obtain ⟨rfl, rfl⟩ := h
    exact wp_skip (hk a μ S w hs I (Ext.refl _ _ _ _) rfl)
  | region id ops draw =>
    intro ac hc st x st' h μ S w a I hs Q hk
    cases draw with
    | false =>
      simp only [compC, Option.some.injEq] at hc
      cases ha : compAOs P ops ops.toList with
      | none => rw [ha] at hc; subst hc; simp [runC] at h
      | some aos =>
      rw [ha] at hc
      subst hc
      simp only [Option.map_some, Option.getD_some, runC, Option.map_eq_some_iff, Prod.mk.injEq] at h
      obtain ⟨st1, h1, rfl, rfl⟩ := h
      exact wp_region_list (ops_sound C ha h1 I hs hk)
    | true =>
      simp only [compC, Option.some.injEq] at hc
      cases hd : compDraw P ops with
      | none => rw [hd] at hc; subst hc; simp [runC] at h
      | some ds =>
      rw [hd] at hc
      subst hc
      simp only [Option.map_some, Option.getD_some, runC, Option.map_eq_some_iff, Prod.mk.injEq] at h
      obtain ⟨st1, h1, rfl, rfl⟩ := h
      refine wp_region_any hm (draw_sound C hd h1 (I.drawn (w.drawn + 1)) (hs.imp (VRel.drawn _)) fun a' μ' S' w' r1 r2 r3 r4 => hk a' μ' S' w' r1 r2 ((Ext.drawn _ _ _ _ _).trans r3) r4)
  | seq c1 c2 ih1 ih2 =>
    intro ac hc st x st' h μ S w a I hs Q hk
    simp only [compC, Option.bind_eq_some_iff, Option.map_eq_some_iff] at hc
    obtain ⟨x1, h1, y1, h2, rfl⟩ := hc
    simp only [runC] at h
    refine wp_seq ?_
    split at h
    · rename_i st1 hr
      exact ih1 x1 h1 st .norm st1 hr μ S w a I hs _ fun a' μ' S' w' r1 r2 r3 r4 => ih2 y1 h2 st1 x st' h μ' S' w' a' r2 r1 Q fun a'' μ'' S'' w'' q1 q2 q3 q4 => hk a'' μ'' S'' w'' q1 q2 (r3.trans q3) (q4.trans r4)
    · rename_i hne
      refine ih1 x1 h1 st x st' h μ S w a I hs _ fun a' μ' S' w' r1 r2 r3 r4 => ?_
      have := hk a' μ' S' w' r1 r2 r3 r4
      cases x with
      | norm => exact absurd h (hne st')
      | exit id => exact this
      | ret => exact this
  | cond z c1 c2 ih1 ih2 =>
    intro ac hc st x st' h μ S w a I hs Q hk
    simp only [compC, Option.bind_eq_some_iff, Option.map_eq_some_iff] at hc
    obtain ⟨z', hz, x1, h1, y1, h2, rfl⟩ := hc
    have rz := relO_of I.laid hs [z] z (by simp) z' hz
    simp only [runC] at h
    split at h
    · rename_i e
      rw [e] at rz
      exact wp_cond_true rz.bool_inv (ih1 x1 h1 st x st' h μ S w a I hs Q hk)
    · rename_i e
      rw [e] at rz
      exact wp_cond_false rz.bool_inv (ih2 y1 h2 st x st' h μ S w a I hs Q hk)
    · cases h
  | block id c ih =>
    intro ac hc st x st' h μ S w a I hs Q hk
    simp only [compC, Option.map_eq_some_iff] at hc
    obtain ⟨x1, h1, rfl⟩ := hc
    simp only [runC] at h
    refine wp_block ?_
    split at h
    · rename_i j st1 hr
      refine ih x1 h1 st (.exit j) st1 hr μ S w a I hs _ fun a' μ' S' w' r1 r2 r3 r4 => ?_
      show Exit.inBlock id Q (.exit j) a' w'
      unfold Exit.inBlock
      split at h
      · rename_i e
        simp only [Option.some.injEq, Prod.mk.injEq] at h
        obtain ⟨rfl, rfl⟩ := h
        simp only [e, if_true]
        exact hk a' μ' S' w' r1 r2 r3 r4
      · rename_i e
        simp only [Option.some.injEq, Prod.mk.injEq] at h
        obtain ⟨rfl, rfl⟩ := h
        simp only [e, if_false]
        exact hk a' μ' S' w' r1 r2 r3 r4
    · rename_i hne
      refine ih x1 h1 st x st' h μ S w a I hs _ fun a' μ' S' w' r1 r2 r3 r4 => ?_
      have := hk a' μ' S' w' r1 r2 r3 r4
      cases x with
      | norm => exact this
      | exit j => exact absurd h (hne j st')
      | ret => exact this
  | loop c ih =>
    intro ac hc st x st' h μ S w a I hs Q hk
    simp only [compC, Option.map_eq_some_iff] at hc
    obtain ⟨x1, h1, rfl⟩ := hc
    simp only [runC] at h
    have key : ∀ (m : Nat) (st : St) (μ1 : Mu) (S1 : Nat → Prop) (w1 : World) (a1 : Act), iter m (runC call n x1) st = some (x, st') → Inv μ1 S1 st.2 w1 → VRels μ1 S1 w1 st.1 a1.tmps.toList →
        (∀ a' μ' S' w', VRels μ' S' w' st'.1 a'.tmps.toList → Inv μ' S' st'.2 w' → Ext μ1 S1 st.2 w1 μ' S' st'.2 w' → a'.defers = a1.defers → Q (toExit x) a' w') → Code.rounds P c Q m a1 w1 := by
      intro m
      induction m with
      | zero => intro st μ1 S1 w1 a1 h; simp [iter] at h
      | succ m ihm =>
        intro st μ1 S1 w1 a1 h I1 hs1 hk1
        rw [rounds_succ]
        simp only [iter] at h
        split at h
        · rename_i st1 hr
          exact ih x1 h1 st .norm st1 hr μ1 S1 w1 a1 I1 hs1 _ fun a' μ' S' w' r1 r2 r3 r4 => ihm st1 μ' S' w' a' h r2 r1 fun a'' μ'' S'' w'' q1 q2 q3 q4 => hk1 a'' μ'' S'' w'' q1 q2 (r3.trans q3) (q4.trans r4)
        · rename_i hne
          refine ih x1 h1 st x st' h μ1 S1 w1 a1 I1 hs1 _ fun a' μ' S' w' r1 r2 r3 r4 => ?_
          have := hk1 a' μ' S' w' r1 r2 r3 r4
          cases x with
          | norm => exact absurd h (hne st')
          | exit j => exact this
          | ret => exact this
    exact wp_loop_rounds n (key n st μ S w a h I hs hk)
  | exit id =>
    intro ac hc st x st' h μ S w a I hs Q hk
    simp only [compC, Option.some.injEq] at hc; subst hc
    simp only [runC, Option.some.injEq, Prod.mk.injEq] at h
    obtain ⟨rfl, rfl⟩ := h
    exact wp_exit (hk a μ S w hs I (Ext.refl _ _ _ _) rfl)
  | ret =>
    intro ac hc st x st' h μ S w a I hs Q hk
    simp only [compC, Option.some.injEq] at hc; subst hc
    simp only [runC, Option.some.injEq, Prod.mk.injEq] at h
    obtain ⟨rfl, rfl⟩ := h
    exact wp_ret (hk a μ S w hs I (Ext.refl _ _ _ _) rfl)
  | _ => intro ac hc st x st' h; simp only [compC, Option.some.injEq] at hc; subst hc; simp [runC] at h
theorem res_sound {μ : Mu} {S : Nat → Prop} {st : St} {w : World} {a : Act} (I : Inv μ S st.2 w) (hs : VRels μ S w st.1 a.tmps.toList) : ∀ {rs : List ResultVar} {ars : List Res}, compRes P rs = some ars → ∀ {vs : List V}, ars.mapM (resOne st) = some vs →
    ∃ xs : List Value, (rs.mapM (rdRes a.tmps)).run P w = .ok xs w ∧ VRels μ S w vs xs
  | [], ars, hc, vs, h => by
    simp [compRes] at hc; subst hc
    simp at h; subst h
    exact ⟨[], by simp, .nil⟩
  | .tmp t :: r, ars, hc, vs, h => by
    simp only [compRes, Option.map_eq_some_iff] at hc
    obtain ⟨ars', hr, rfl⟩ := hc
    simp only [List.mapM_cons, Option.bind_eq_bind, Option.bind_eq_some_iff, Option.pure_def, Option.some.injEq] at h
    obtain ⟨v, h1, vs', h2, rfl⟩ := h
    obtain ⟨xs, k1, k2⟩ := res_sound I hs hr h2
    simp only [resOne, Option.some.injEq] at h1
    subst h1
    refine ⟨a.tmps.getD t undef :: xs, ?_, .cons (by simpa using getD_rel hs t) k2⟩
    simp only [List.mapM_cons, Sem.run_bind, rdRes, Sem.run_pure, Result.andThen_ok, k1]
  | .cell b t :: r, ars, hc, vs, h => by
    simp only [compRes, Option.bind_eq_some_iff, Option.map_eq_some_iff] at hc
    obtain ⟨sh, hsh, ars', hr, rfl⟩ := hc
    simp only [List.mapM_cons, Option.bind_eq_bind, Option.bind_eq_some_iff, Option.pure_def, Option.some.injEq] at h
    obtain ⟨v, h1, vs', h2, rfl⟩ := h
    obtain ⟨xs, k1, k2⟩ := res_sound I hs hr h2
    simp only [resOne] at h1
    have hb : VRel μ S w (st.1.getD b .undef) (a.tmps.getD b undef) := by simpa using getD_rel hs b
    obtain ⟨cv, q1, q2⟩ := load_sound (P := P) I hsh hb (r := v) h1
    have hptr : ∃ ad, a.tmps.getD b undef = .pointer (some ad) := by
      simp only [stepR, ev] at h1
      split at h1
      · rename_i e
        rw [e] at hb
        obtain ⟨b', o, e', -⟩ := hb.ptr_inv
        exact ⟨_, e'⟩
      · rename_i e
        rw [e] at hb
        obtain ⟨b', o, c, e1, fz, f, e', -⟩ := hb.cptr_inv
        exact ⟨_, e'⟩
      · cases h1
    obtain ⟨ad, had⟩ := hptr
    rw [had] at q1
    simp only [Instr.loadAt, Instr.sureAddr, Sem.run_bind, Sem.run_pure, Result.andThen_ok] at q1
    refine ⟨cv :: xs, ?_, .cons q2 k2⟩
    have hrd : (rdRes a.tmps (.cell b t)).run P w = .ok cv w := by
      simp only [rdRes, Sem.run_bind, had, asAddr, Sem.run_pure, Result.andThen_ok, q1]
    simp only [List.mapM_cons, Sem.run_bind, hrd, Sem.run_pure, Result.andThen_ok, k1]
theorem runF_sound (hm : P.follows .mixedOrders = true) (C : CallOK P call) (n : Nat) {f : Nat} {pu : Bool} {rm : RM} {af : AF} (hf : compFn P f pu rm = some af) {args : List V} {H H' : Heap} {v : V} (h : runF call n af args H = some (v, H')) (hl : args.length = af.np)
    {μ : Mu} {S : Nat → Prop} {w : World} (I : Inv μ S H w) {cargs : Array Value} (ha : VRels μ S w args cargs.toList) :
    Calls P f cargs w fun e w' => ∃ cv μ' S', e = .returned cv ∧ VRel μ' S' w' v cv ∧ Inv μ' S' H' w' ∧ Ext μ S H w μ' S' H' w' := by
  simp only [compFn, Option.bind_eq_some_iff] at hf
  obtain ⟨fn, hfn, c, hc, body, hb, res, hres, hf⟩ := hf
  split at hf
  · cases hf
  · injection hf with hf; subst hf
    simp only at hl
    refine calls_of_wp hfn hc ?_
    have hal := ha.length
    have hsz : cargs.size = args.length := by simpa using hal.symm
    have hslots : VRels μ S w (args ++ List.replicate (fn.ntmps - (fn.params.size + fn.nfree)) (.tup [])) ({ tmps := cargs ++ Array.replicate (fn.ntmps - cargs.size) undef, defers := [] } : Act).tmps.toList := by
      simp only [Array.toList_append, Array.toList_replicate]
      refine ha.append ?_
      rw [hsz, hl]
      generalize fn.ntmps - (fn.params.size + fn.nfree) = k
      induction k with
      | zero => exact .nil
      | succ k ih => exact .cons (.tup [] #[] rfl (fun j v hj => by simp at hj)) ih
    unfold runF at h
    have fin : ∀ (x : X) (st : St), runC call n body (args ++ List.replicate (fn.ntmps - (fn.params.size + fn.nfree)) (.tup []), H) = some (x, st) → (x = .norm ∨ x = .ret) → (resV res st).map (·, st.2) = some (v, H') →
        c.wp P (bodyPost P fn fun e w' => ∃ cv μ' S', e = .returned cv ∧ VRel μ' S' w' v cv ∧ Inv μ' S' H' w' ∧ Ext μ S H w μ' S' H' w') { tmps := cargs ++ Array.replicate (fn.ntmps - cargs.size) undef, defers := [] } w := by
      intro x st hr hx hv
      simp only [Option.map_eq_some_iff, Prod.mk.injEq] at hv
      obtain ⟨v', hv', rfl, rfl⟩ := hv
      refine code_sound hm C n c body hb _ x st hr μ S w _ I hslots _ fun a' μ' S' w' r1 r2 r3 r4 => ?_
      unfold resV at hv'
      simp only [Option.map_eq_some_iff] at hv'
      obtain ⟨vs, hvs, rfl⟩ := hv'
      obtain ⟨xs, k1, k2⟩ := res_sound (P := P) r2 r1 hres hvs
      have hrun : ∃ cv, (results fn a'.tmps).run P w' = .ok cv w' ∧ VRel μ' S' w' (oneOr vs) cv := by
        rw [results_eq, Array.mapM_eq_mapM_toList]
        simp only [Sem.run_bind, Sem.run_map, k1, Result.andThen_ok, Sem.run_pure]
        clear hvs k1
        cases k2 with
        | nil => exact ⟨_, rfl, VRels.tup .nil⟩
        | cons h1 h2 =>
          cases h2 with
          | nil => exact ⟨_, rfl, h1⟩
          | cons h2 h3 => exact ⟨_, by simp, VRels.tup (.cons h1 (.cons h2 h3))⟩
      obtain ⟨cv, c1, c2⟩ := hrun
      rcases hx with rfl | rfl
      · exact ⟨r4, cv, c1, cv, μ', S', rfl, c2, r2, r3⟩
      · exact ⟨r4, cv, c1, cv, μ', S', rfl, c2, r2, r3⟩
    split at h
    · rename_i st hr
      exact fin .norm st hr (.inl rfl) h
    · rename_i st hr
      exact fin .ret st hr (.inr rfl) h
    · cases h
end
end Go.AM

/- What a value reads as, all of it: it says of the same world, with no object of one's own. -/
set_option linter.unusedVariables false
set_option linter.unusedSimpArgs false
namespace Go.AM
open Go.RowKit
section
variable {μ μ' : Mu} {S S' : Nat → Prop} {H : Heap} {w w' : World}

theorem VRel.dsc_mu {v : V} {x : Value} (h : VRel μ S w v x) (hd : v.dsc = true) (hS : ∀ b, S b → S' b) (hk : ∀ b, S b → w'.heap[b]? = w.heap[b]?) : VRel μ' S' w' v x := by
  induction h with
  | bool b => exact .bool b
  | int k n => exact .int k n
  | str s => exact .str s
  | lst0 a n => exact .lst0 a n
  | lst xs s b o cap c e fz f h1 h2 h3 h4 h5 _ ih => exact .lst xs s b o cap c e fz f (hS b h1) ((hk b h1).trans h2) h3 h4 h5 fun j v hj => ih j v hj (h5 j v hj).1
  | _ => simp [V.dsc] at hd

def DeepAt (μ : Mu) (S : Nat → Prop) (H : Heap) (w : World) (μ' : Mu) (S' : Nat → Prop) (n : Nat) : Prop :=
  ∀ v d, deep H n v = some d → v.sc = true → ∀ x, VRel μ S w v x → d.dsc = true ∧ VRel μ' S' w d x
theorem dsc_cells {v : V} (h : v.dsc = true) : v.cells = [v] := cells_sc (dsc_sc h)
theorem deep_list {n : Nat} (D : DeepAt μ S H w μ' S' n) : ∀ {cs ds : List V}, cs.mapM (deep H n) = some ds → cs.all V.sc = true → ∀ {xs : List Value}, VRels μ S w cs xs → ds.length = cs.length ∧ ds.all V.dsc = true ∧ VRels μ' S' w ds xs
  | [], ds, h, _, xs, hx => by
    simp at h; subst h
    cases hx
    exact ⟨rfl, rfl, .nil⟩
  | c :: cs, ds, h, hs, xs, hx => by
    simp only [List.mapM_cons, Option.bind_eq_bind, Option.bind_eq_some_iff, Option.pure_def, Option.some.injEq] at h
    obtain ⟨d, h1, ds', h2, rfl⟩ := h
    simp only [List.all_cons, Bool.and_eq_true] at hs
    cases hx with
    | cons k1 k2 =>
      obtain ⟨a1, a2⟩ := D c d h1 hs.1 _ k1
      obtain ⟨b1, b2, b3⟩ := deep_list D h2 hs.2 k2
      exact ⟨by simp [b1], by simp [a1, b2], .cons a2 b3⟩
theorem deep_cells {n : Nat} (D : ∀ m, m ≤ n → DeepAt μ S H w μ' S' m) {v d : V} (h : deep H n v = some d) (hs : v.cells.all V.sc = true) {xs : List Value} (hx : VRels μ S w v.cells xs) :
    d.cells.length = v.cells.length ∧ d.cells.all V.dsc = true ∧ VRels μ' S' w d.cells xs := by
  cases hv : v with
  | agg cs =>
    subst hv
    cases n with
    | zero => simp [deep] at h
    | succ m =>
      simp only [deep, Option.map_eq_some_iff] at h
      obtain ⟨ds, h1, rfl⟩ := h
      exact deep_list (D m (Nat.le_succ m)) h1 hs hx
  | tup cs => subst hv; simp [V.cells, V.sc] at hs
  | undef => subst hv; simp [V.cells, V.sc] at hs
  | _ =>
    have hc : v.cells = [v] := by rw [hv]; rfl
    rw [← hv] at *
    rw [hc] at hx hs ⊢
    cases hx with
    | cons k1 k2 =>
      cases k2
      obtain ⟨a1, a2⟩ := D n (Nat.le_refl n) v d h (by simpa using hs) _ k1
      rw [dsc_cells a1]
      exact ⟨rfl, by simp [a1], .cons a2 .nil⟩
theorem deep_flat {n : Nat} (D : ∀ m, m ≤ n → DeepAt μ S H w μ' S' m) : ∀ {ys ds : List V}, ys.mapM (deep H n) = some ds → (∀ y ∈ ys, y.cells.all V.sc = true) → ∀ {xs : List Value}, VRels μ S w (ys.flatMap V.cells) xs →
    ds.length = ys.length ∧ (∀ s, (∀ y ∈ ys, y.cells.length = s) → ∀ d ∈ ds, d.cells.length = s) ∧ (ds.flatMap V.cells).all V.dsc = true ∧ VRels μ' S' w (ds.flatMap V.cells) xs
  | [], ds, h, _, xs, hx => by
    simp at h; subst h
    exact ⟨rfl, by simp, rfl, by cases hx; exact .nil⟩
  | y :: ys, ds, h, hs, xs, hx => by
    simp only [List.mapM_cons, Option.bind_eq_bind, Option.bind_eq_some_iff, Option.pure_def, Option.some.injEq] at h
    obtain ⟨d, h1, ds', h2, rfl⟩ := h
    simp only [List.flatMap_cons] at hx
    have hx1 : VRels μ S w y.cells (xs.take y.cells.length) := by have := hx.take y.cells.length; rwa [List.take_left' rfl] at this
    have hx2 : VRels μ S w (ys.flatMap V.cells) (xs.drop y.cells.length) := by have := hx.drop y.cells.length; rwa [List.drop_left' rfl] at this
    obtain ⟨a1, a2, a3⟩ := deep_cells D h1 (hs y List.mem_cons_self) hx1
    obtain ⟨b1, b2, b3, b4⟩ := deep_flat D h2 (fun z hz => hs z (List.mem_cons_of_mem _ hz)) hx2
    refine ⟨by simp [b1], fun s hl z hz => ?_, by simp only [List.flatMap_cons, List.all_append, a2, b3, Bool.and_self], by simpa using a3.append b4⟩
    rcases List.mem_cons.1 hz with rfl | hz
    · rw [a1]; exact hl y List.mem_cons_self
    · exact b2 s (fun u hu => hl u (List.mem_cons_of_mem _ hu)) z hz
/-- A stretch of a block that may be read, told as a list. -/
theorem lst_of {ys : List V} {s b o cap : Nat} {c : Array Value} {e : TypeId} {fz : Nat × Nat} {xs : List Value} (hb : S' b) (hw : w.heap[b]? = some (.cells c e fz)) (hcap : ys.length ≤ cap) (hl : ∀ y ∈ ys, y.cells.length = s)
    (hd : (ys.flatMap V.cells).all V.dsc = true) (hr : VRels μ' S' w (ys.flatMap V.cells) xs) (hx : ∀ j x, xs[j]? = some x → c[o + j]? = some x) : VRel μ' S' w (.lst ys) (.slice (some ⟨b, o, none⟩) ys.length cap) := by
  refine .lst ys s b o cap c e fz (fun j => xs.getD j undef) hb hw hcap hl (fun j v hj => ?_) (fun j v hj => hr.get j v hj)
  obtain ⟨x, k1, -⟩ := hr.get? j v hj
  refine ⟨List.all_eq_true.1 hd v (List.mem_of_getElem? hj), ?_⟩
  rw [hx j x k1]
  simp [List.getD, k1]
/-- The cells of a row's stretch. -/
theorem row_cells (I : Inv μ S H w) {id s off len : Nat} {fl : Bool} {xs : List V} (hr : H[id]? = some (.row s fl xs)) {b o : Nat} (hm : μ id = some (b, o)) (hle : off + len ≤ xs.length) :
    ∃ (c : Array Value) (e : TypeId) (zs : List Value), w.heap[b]? = some (.cells c e (0, 0)) ∧ (∀ x ∈ xs, okEl s fl x = true) ∧ VRels μ S w (((xs.drop off).take len).flatMap V.cells) zs ∧ (∀ j x, zs[j]? = some x → c[o + off * s + j]? = some x) ∧ o + xs.length * s ≤ c.size := by
  obtain ⟨c, e, g1, g2, g3, g4⟩ := row_get (I.obj id _ b o hr rfl hm)
  have hcell : ∀ j u, (((xs.drop off).take len).flatMap V.cells)[j]? = some u → ∃ x, c[o + off * s + j]? = some x ∧ VRel μ S w u x := by
    intro j u hu
    have h1 := flatMap_take_get _ _ _ _ hu
    rw [flatMap_drop xs off (fun y hy => okEl_len (g2 y hy)), List.getElem?_drop] at h1
    obtain ⟨x, h2, h3⟩ := g3 _ u h1
    exact ⟨x, by rw [Nat.add_assoc]; exact h2, h3⟩
  let L := ((xs.drop off).take len).flatMap V.cells
  refine ⟨c, e, (List.range L.length).map (fun j => c.getD (o + off * s + j) undef), g1, g2, VRels.det_len (by simp [L]) fun j u hu => ?_, fun j x hj => ?_, g4⟩
  · obtain ⟨x, h1, h2⟩ := hcell j u hu
    have hlt : j < L.length := (List.getElem?_eq_some_iff.1 hu).1
    refine ⟨x, ?_, h2⟩
    simp only [List.getElem?_map, List.getElem?_range hlt, Option.map_some]
    simp [h1]
  · have hlt : j < L.length := by have := (List.getElem?_eq_some_iff.1 hj).1; simpa using this
    obtain ⟨x', h1, -⟩ := hcell j _ (List.getElem?_eq_getElem hlt)
    simp only [List.getElem?_map, List.getElem?_range hlt, Option.map_some, Option.some.injEq] at hj
    simp [h1] at hj
    rw [h1, hj]
theorem deep_one (I : Inv μ S H w) (hS : ∀ b, S b → S' b) (hO : ∀ b, Own μ H b → S' b) : ∀ n, DeepAt μ S H w μ' S' n := by
  intro n
  induction n using Nat.strongRecOn with
  | _ n ih =>
    intro v d h hs x hx
    cases n with
    | zero => simp [deep] at h
    | succ n =>
      simp only [deep] at h
      split at h
      · injection h with h; subst h; cases hx; exact ⟨rfl, .bool _⟩
      · injection h with h; subst h; cases hx; exact ⟨rfl, .int _ _⟩
      · injection h with h; subst h; cases hx; exact ⟨rfl, .str _⟩
      · injection h with h; subst h; exact ⟨rfl, hx.dsc_mu rfl hS fun _ _ => rfl⟩
      · injection h with h; subst h; cases hx; exact ⟨rfl, .lst0 _ _⟩
      · rename_i id s off len
        split at h
        · rename_i fl xs hr
          have hid := rowAt_inv hr
          split at h
          · rename_i hle
            have hyl : ((xs.drop off).take len).length = len := by rw [List.length_take, List.length_drop]; omega
            cases hx with
            | ref0 _ _ _ a =>
              simp only [List.take_zero] at h
              cases fl <;> simp at h <;> (subst h; exact ⟨rfl, .lst0 _ _⟩)
            | ref _ _ _ _ cap b o c e fz k1 k2 k3 k4 =>
              obtain ⟨c', e', zs, g1, g2, g3, g4, -⟩ := row_cells I hid k1 hle
              have hb : S' b := hO b ⟨id, _, o, hid, rfl, k1⟩
              have hmem : ∀ y ∈ (xs.drop off).take len, okEl s fl y = true := fun y hy => g2 y (List.mem_of_mem_drop (List.mem_of_mem_take hy))
              have hyl' := hyl
              generalize (xs.drop off).take len = ys at *
              cases fl with
              | true =>
                simp only [if_true, Option.some.injEq] at h; subst h
                have hfl : ∀ u ∈ ys.flatMap V.cells, u.dsc = true := fun u hu => by
                  obtain ⟨y, hy, hu⟩ := List.mem_flatMap.1 hu
                  have := List.all_eq_true.1 (okEl_flat (hmem y hy) rfl) u hu
                  cases u <;> simp [V.flat1] at this <;> rfl
                refine ⟨rfl, ?_⟩
                rw [← hyl]
                refine lst_of hb g1 (by omega) (fun y hy => okEl_len (hmem y hy)) (List.all_eq_true.2 hfl) (xs := zs) (VRels.det_len g3.length fun j u hu => ?_) g4
                obtain ⟨z, q1, q2⟩ := g3.get? j u hu
                exact ⟨z, q1, q2.dsc_mu (hfl u (List.mem_of_getElem? hu)) hS fun _ _ => rfl⟩
              | false =>
                simp only [Bool.false_eq_true, if_false, Option.map_eq_some_iff] at h
                obtain ⟨ds, h1, rfl⟩ := h
                obtain ⟨q1, q2, q3, q4⟩ := deep_flat (fun m hm => ih m (by omega)) h1 (fun y hy => okEl_sc (hmem y hy)) g3
                refine ⟨rfl, ?_⟩
                rw [← hyl, ← q1]
                exact lst_of hb g1 (by omega) (q2 s fun y hy => okEl_len (hmem y hy)) q3 q4 g4
          · cases h
        · cases h
      · simp [V.sc] at hs
      · simp [V.sc] at hs
      · cases h
theorem data_one (hS : ∀ b, S b → S' b) (n : Nat) {v d : V} (hs : (match v with | .bool _ | .int _ _ | .str _ | .lst _ | .nil => true | _ => false) = true) (h : deep H n v = some d) {x : Value} (hx : VRel μ S w v x) : d.dsc = true ∧ VRel μ' S' w d x := by
  cases n with
  | zero => simp [deep] at h
  | succ n =>
    cases v <;> simp at hs <;> simp only [deep, Option.some.injEq] at h <;> subst h
    · cases hx; exact ⟨rfl, .bool _⟩
    · cases hx; exact ⟨rfl, .int _ _⟩
    · cases hx; exact ⟨rfl, .str _⟩
    · cases hx; exact ⟨rfl, .lst0 _ _⟩
    · exact ⟨rfl, hx.dsc_mu rfl hS fun _ _ => rfl⟩
theorem data_list (hS : ∀ b, S b → S' b) (n : Nat) : ∀ {cs ds : List V}, cs.mapM (deep H n) = some ds → (cs.all fun c => match c with | .bool _ | .int _ _ | .str _ | .lst _ | .nil => true | _ => false) = true → ∀ {xs : List Value}, VRels μ S w cs xs → ds.all V.dsc = true ∧ VRels μ' S' w ds xs
  | [], ds, h, _, xs, hx => by
    simp at h; subst h
    cases hx
    exact ⟨rfl, .nil⟩
  | c :: cs, ds, h, hs, xs, hx => by
    simp only [List.mapM_cons, Option.bind_eq_bind, Option.bind_eq_some_iff, Option.pure_def, Option.some.injEq] at h
    obtain ⟨d, h1, ds', h2, rfl⟩ := h
    rw [List.all_cons, Bool.and_eq_true] at hs
    cases hx with
    | cons k1 k2 =>
      obtain ⟨a1, a2⟩ := data_one (μ' := μ') hS n hs.1 h1 k1
      obtain ⟨b2, b3⟩ := data_list hS n h2 hs.2 k2
      exact ⟨by simp [a1, b2], .cons a2 b3⟩
theorem dsc_agg {ds : List V} (h : ds.all V.dsc = true) : ds.all V.sc = true := List.all_eq_true.2 fun v hv => dsc_sc (List.all_eq_true.1 h v hv)
/-- All of a value that is data already: what may be read stays what it was. -/
theorem data_sound (hS : ∀ b, S b → S' b) (n : Nat) {v d : V} (h : deep H n v = some d) (hs : v.data = true) {x : Value} (hx : VRel μ S w v x) : VRel μ' S' w d x := by
  cases n with
  | zero => simp [deep] at h
  | succ n =>
    cases v with
    | agg cs =>
      simp only [deep, Option.map_eq_some_iff] at h
      obtain ⟨ds, h1, rfl⟩ := h
      obtain ⟨xs, rfl, k, -⟩ := hx.agg_inv
      obtain ⟨a, b⟩ := data_list (μ' := μ') hS n h1 hs k
      exact b.agg (dsc_agg a)
    | bool _ => exact (data_one hS _ rfl h hx).2
    | int _ _ => exact (data_one hS _ rfl h hx).2
    | str _ => exact (data_one hS _ rfl h hx).2
    | lst _ => exact (data_one hS _ rfl h hx).2
    | nil => exact (data_one hS _ rfl h hx).2
    | _ => simp [V.data] at hs
theorem deep_sound (I : Inv μ S H w) (hS : ∀ b, S b → S' b) (hO : ∀ b, Own μ H b → S' b) : ∀ (n : Nat) {v d : V}, deep H n v = some d → ∀ {x : Value}, VRel μ S w v x → VRel μ' S' w d x := by
  have lst : ∀ (n : Nat), (∀ {v d : V}, deep H n v = some d → ∀ {x : Value}, VRel μ S w v x → VRel μ' S' w d x) → ∀ {cs ds : List V}, cs.mapM (deep H n) = some ds → ∀ {xs : List Value}, VRels μ S w cs xs → VRels μ' S' w ds xs := by
    intro n ih cs
    induction cs with
    | nil => intro ds h xs hx; simp at h; subst h; cases hx; exact .nil
    | cons c cs ihc =>
      intro ds h xs hx
      simp only [List.mapM_cons, Option.bind_eq_bind, Option.bind_eq_some_iff, Option.pure_def, Option.some.injEq] at h
      obtain ⟨d, h1, ds', h2, rfl⟩ := h
      cases hx with
      | cons k1 k2 => exact .cons (ih h1 k1) (ihc h2 k2)
  intro n
  induction n with
  | zero => intro v d h; simp [deep] at h
  | succ n ih =>
    intro v d h x hx
    by_cases hs : v.sc = true
    · exact (deep_one I hS hO (n + 1) v d h hs x hx).2
    · cases v with
      | agg cs =>
        simp only [deep, Option.map_eq_some_iff] at h
        obtain ⟨ds, h1, rfl⟩ := h
        obtain ⟨xs, rfl, k, ks⟩ := hx.agg_inv
        obtain ⟨-, b, c⟩ := deep_list (deep_one (μ' := μ') I hS hO n) h1 ks k
        exact c.agg (dsc_agg b)
      | tup cs =>
        simp only [deep, Option.map_eq_some_iff] at h
        obtain ⟨ds, h1, rfl⟩ := h
        obtain ⟨xs, rfl, k⟩ := hx.tup_inv
        exact (lst n ih h1 k).tup
      | undef => simp [deep] at h
      | _ => simp [V.sc] at hs
end
end Go.AM

/- Calls: a function's answer, laid into the caller's heap; the table. -/
set_option linter.unusedVariables false
set_option linter.unusedSimpArgs false
namespace Go.AM
open Go.RowKit
section
variable {μ μ' μ0 μ1 : Mu} {S S' S0 S1 : Nat → Prop} {H H0 h1 : Heap} {w w0 w1 : World}

theorem back (I : Inv μ S H w) (hsz : w.heap.size ≤ w1.heap.size) (hos : w1.os = w.os) (htp : w1.tape = w.tape) (hou : w1.output = w.output) (hk : ∀ b, b < w.heap.size → w1.heap[b]? = w.heap[b]?)
    (hS : ∀ b, S b → S' b) (hn : ∀ b, S' b → S b ∨ (w.heap.size ≤ b ∧ b < w1.heap.size)) : Inv μ S' H w1 ∧ Ext μ S H w μ S' H w1 := by
  have mono : ∀ v x, VRel μ S w v x → VRel μ S' w1 v x := fun v x h => h.mono (fun _ _ h => h) hS (fun b hb => hk b (I.sdom b hb)) fun b c e fz h => ⟨c, _, (hk b (heap_lt h)).trans h, rfl⟩
  refine ⟨⟨fun id b o h => ⟨(I.dom id b o h).1, Nat.lt_of_lt_of_le (I.dom id b o h).2 hsz⟩, fun b hb => ?_, fun id x b o hx hl hm => (I.obj id x b o hx hl hm).imp mono (hk b (I.dom id b o hm).2), I.inj, fun id x b o hx hl hm hb => ?_, I.laid.imp hS fun b hb => hk b (I.sdom b hb)⟩,
    fun _ _ h => h, hS, fun b hb => (hn b hb).imp id (·.1), Nat.le_refl _, hos, htp, hou, hsz, fun b hb _ => hk b hb, fun b c e fz h => ⟨c, _, (hk b (heap_lt h)).trans h, rfl⟩, fun _ _ h => h, fun _ _ h h' => by rw [h] at h'; cases h'⟩
  · rcases hn b hb with h | h
    · exact Nat.lt_of_lt_of_le (I.sdom b h) hsz
    · exact h.2
  · rcases hn b hb with h | h
    · exact I.sep id x b o hx hl hm h
    · have := (I.dom id b o hm).2; omega
theorem flat_mu {v : V} {x : Value} (hv : v.flat1 = true) (h : VRel μ S w v x) : VRel μ' S' w1 v x := by
  cases h <;> first | exact .bool _ | exact .int _ _ | exact .str _ | simp [V.flat1] at hv
theorem flat_mus {vs : List V} {xs : List Value} (h : VRels μ S w vs xs) (hv : vs.all V.flat1 = true) : VRels μ' S' w1 vs xs := by
  induction h with
  | nil => exact .nil
  | cons h _ ih =>
    simp only [List.all_cons, Bool.and_eq_true] at hv
    exact .cons (flat_mu hv.1 h) (ih hv.2)
theorem flat_sc1 {v : V} (h : v.flat1 = true) : v.sc = true := by cases v <;> first | rfl | simp [V.flat1] at h
theorem flat_scs {vs : List V} (h : vs.all V.flat1 = true) : vs.all V.sc = true := List.all_eq_true.2 fun v hv => flat_sc1 (List.all_eq_true.1 h v hv)
theorem flat_cells {v : V} {x : Value} (h : VRel μ S w v x) (hv : v.cells.all V.flat1 = true) : VRel μ' S' w1 v x := by
  cases hc : v with
  | agg cs =>
    subst hc
    obtain ⟨xs, rfl, k, -⟩ := h.agg_inv
    exact (flat_mus k hv).agg (flat_scs hv)
  | _ => 
    have e : v.cells = [v] := by rw [hc]; rfl
    rw [e] at hv
    rw [← hc]
    exact flat_mu (by simpa using hv) h
theorem flat_rel {v : V} {x : Value} (h : VRel μ S w v x) (hv : v.cellsT.all V.flat1 = true) : VRel μ' S' w1 v x := by
  cases v with
  | agg cs => exact flat_cells h hv
  | tup cs =>
    obtain ⟨xs, rfl, k⟩ := h.tup_inv
    refine VRels.tup ?_
    simp only [V.cellsT] at hv
    clear h
    induction k with
    | nil => exact .nil
    | cons h _ ih =>
      simp only [List.flatMap_cons, List.all_append, Bool.and_eq_true] at hv
      exact .cons (flat_cells h hv.1) (ih hv.2)
  | _ => exact flat_cells h hv
theorem fresh_one (I : Inv μ1 S1 h1 w1) (hO : ∀ b, Own μ1 h1 b → S' b) {n : Nat} {v d : V} (hf : freshF h1 v = true) (h : deep h1 n v = some d) {x : Value} (hx : VRel μ1 S1 w1 v x) : d.dsc = true ∧ VRel μ' S' w1 d x := by
  cases n with
  | zero => simp [deep] at h
  | succ n =>
    cases v with
    | bool b => simp only [deep, Option.some.injEq] at h; subst h; cases hx; exact ⟨rfl, .bool _⟩
    | int k i => simp only [deep, Option.some.injEq] at h; subst h; cases hx; exact ⟨rfl, .int _ _⟩
    | str s => simp only [deep, Option.some.injEq] at h; subst h; cases hx; exact ⟨rfl, .str _⟩
    | nil => simp only [deep, Option.some.injEq] at h; subst h; cases hx; exact ⟨rfl, .lst0 _ _⟩
    | ref id s off len =>
      simp only [deep] at h
      simp only [freshF] at hf
      split at h
      · rename_i fl xs hr
        rw [hr] at hf
        dsimp only at hf
        subst hf
        have hid := rowAt_inv hr
        split at h
        · rename_i hle
          simp only [if_true, Option.some.injEq] at h
          subst h
          refine ⟨rfl, ?_⟩
          have hyl : ((xs.drop off).take len).length = len := by rw [List.length_take, List.length_drop]; omega
          cases hx with
          | ref0 _ _ _ a =>
            simp only [List.take_zero]
            exact .lst0 _ _
          | ref _ _ _ _ cap b o c e fz k1 k2 k3 k4 =>
            obtain ⟨c', e', zs, g1, g2, g3, g4, -⟩ := row_cells I hid k1 hle
            have hb : S' b := hO b ⟨id, _, o, hid, rfl, k1⟩
            have hmem : ∀ y ∈ (xs.drop off).take len, okEl s true y = true := fun y hy => g2 y (List.mem_of_mem_drop (List.mem_of_mem_take hy))
            generalize (xs.drop off).take len = ys at *
            have hfl : ∀ u ∈ ys.flatMap V.cells, u.flat1 = true := fun u hu => by
              obtain ⟨y, hy, hu⟩ := List.mem_flatMap.1 hu
              exact List.all_eq_true.1 (okEl_flat (hmem y hy) rfl) u hu
            rw [← hyl]
            exact lst_of hb g1 (by omega) (fun y hy => okEl_len (hmem y hy)) (List.all_eq_true.2 fun u hu => by have := hfl u hu; cases u <;> simp [V.flat1] at this <;> rfl) (flat_mus g3 (List.all_eq_true.2 hfl)) g4
        · cases h
      · cases h
    | _ => simp [freshF] at hf
theorem fresh_list (I : Inv μ1 S1 h1 w1) (hO : ∀ b, Own μ1 h1 b → S' b) {n : Nat} : ∀ {cs ds : List V}, cs.all (freshF h1) = true → cs.mapM (deep h1 n) = some ds → ∀ {xs : List Value}, VRels μ1 S1 w1 cs xs → ds.all V.dsc = true ∧ VRels μ' S' w1 ds xs
  | [], ds, _, h, xs, hx => by
    simp at h; subst h
    cases hx
    exact ⟨rfl, .nil⟩
  | c :: cs, ds, hf, h, xs, hx => by
    simp only [List.mapM_cons, Option.bind_eq_bind, Option.bind_eq_some_iff, Option.pure_def, Option.some.injEq] at h
    obtain ⟨d, h1, ds', h2, rfl⟩ := h
    rw [List.all_cons, Bool.and_eq_true] at hf
    cases hx with
    | cons k1 k2 =>
      obtain ⟨a1, a2⟩ := fresh_one (μ' := μ') I hO hf.1 h1 k1
      obtain ⟨b2, b3⟩ := fresh_list I hO hf.2 h2 k2
      exact ⟨by simp [a1, b2], .cons a2 b3⟩
theorem fresh_cells (I : Inv μ1 S1 h1 w1) (hO : ∀ b, Own μ1 h1 b → S' b) {n : Nat} {v d : V} (hf : v.cells.all (freshF h1) = true) (h : deep h1 n v = some d) {x : Value} (hx : VRel μ1 S1 w1 v x) : VRel μ' S' w1 d x := by
  cases hc : v with
  | agg cs =>
    subst hc
    cases n with
    | zero => simp [deep] at h
    | succ n =>
      simp only [deep, Option.map_eq_some_iff] at h
      obtain ⟨ds, k1, rfl⟩ := h
      obtain ⟨xs, rfl, k, -⟩ := hx.agg_inv
      obtain ⟨a, b⟩ := fresh_list (μ' := μ') I hO hf k1 k
      exact b.agg (dsc_agg a)
  | _ =>
    have e : v.cells = [v] := by rw [hc]; rfl
    rw [e] at hf
    exact (fresh_one I hO (by simpa using hf) h hx).2
theorem fresh_sound (I : Inv μ1 S1 h1 w1) (hO : ∀ b, Own μ1 h1 b → S' b) {n : Nat} {v d : V} (hf : v.cellsT.all (freshF h1) = true) (h : deep h1 n v = some d) {x : Value} (hx : VRel μ1 S1 w1 v x) : VRel μ' S' w1 d x := by
  cases v with
  | agg cs => exact fresh_cells I hO (by exact hf) h hx
  | tup cs =>
    cases n with
    | zero => simp [deep] at h
    | succ n =>
      simp only [deep, Option.map_eq_some_iff] at h
      obtain ⟨ds, k1, rfl⟩ := h
      obtain ⟨xs, rfl, k⟩ := hx.tup_inv
      refine VRels.tup ?_
      simp only [V.cellsT] at hf
      clear hx
      induction k generalizing ds with
      | nil => simp at k1; subst k1; exact .nil
      | cons h _ ih =>
        simp only [List.mapM_cons, Option.bind_eq_bind, Option.bind_eq_some_iff, Option.pure_def, Option.some.injEq] at k1
        obtain ⟨d, q1, ds', q2, rfl⟩ := k1
        simp only [List.flatMap_cons, List.all_append, Bool.and_eq_true] at hf
        exact .cons (fresh_cells I hO hf.1 q1 h) (ih hf.2 _ q2)
  | _ => exact fresh_cells I hO (by exact hf) h hx

/-- Rows of a callee's heap, taken over one by one. -/
structure Th (μ1 : Mu) (h1 : Heap) (w1 : World) (μ0 : Mu) (S0 : Nat → Prop) (H0 : Heap) (w0 : World) (S : Nat → Prop) (ids : List Nat) (μ : Mu) (H : Heap) : Prop where
  inv : Inv μ S H w1
  ext : Ext μ0 S0 H0 w0 μ S H w1
  fresh : ∀ id ∈ ids, ∀ x b o, h1[id]? = some x → live x = true → μ1 id = some (b, o) → ¬ Own μ H b
def Mu.to (μ : Mu) (id : Nat) (p : Nat × Nat) : Mu := fun i => if i = id then some p else μ i
theorem Mu.to_inv {μ : Mu} {id i : Nat} {p q : Nat × Nat} (h : μ.to id q i = some p) : (i = id ∧ p = q) ∨ (i ≠ id ∧ μ i = some p) := by
  unfold Mu.to at h
  split at h
  · injection h with h; exact .inl ⟨by assumption, h.symm⟩
  · exact .inr ⟨by assumption, h⟩
theorem Mu.to_of {μ : Mu} {id : Nat} {q : Nat × Nat} (h : μ id = none) {i : Nat} {p : Nat × Nat} (hp : μ i = some p) : μ.to id q i = some p := by
  unfold Mu.to
  split
  · subst_vars; rw [h] at hp; cases hp
  · exact hp
theorem Th.add (I1 : Inv μ1 S1 h1 w1) {ids : List Nat} {id : Nat} (T : Th μ1 h1 w1 μ0 S0 H0 w0 S (id :: ids) μ H) {x y : O} {b o o' : Nat} (hx : h1[id]? = some x) (lx : live x = true) (hm : μ1 id = some (b, o)) (hb : w0.heap.size ≤ b) (hS : ¬ S b) (hni : id ∉ ids)
    (hr : ORel μ S w1 y b o') : Th μ1 h1 w1 μ0 S0 H0 w0 S ids (μ.to H.length (b, o')) (H ++ [y]) ∧ ∀ i p, μ i = some p → μ.to H.length (b, o') i = some p := by
  have hid : μ H.length = none := by
    cases h : μ H.length with
    | none => rfl
    | some p => have := (T.inv.dom _ p.1 p.2 h).1; omega
  have hmu : ∀ i p, μ i = some p → μ.to H.length (b, o') i = some p := fun i p h => Mu.to_of hid h
  have mono : ∀ v z, VRel μ S w1 v z → VRel (μ.to H.length (b, o')) S w1 v z := fun v z h => h.mono hmu (fun _ h => h) (fun _ _ => rfl) fun _ c _ _ h => ⟨c, _, h, rfl⟩
  have nown : ¬ Own μ H b := T.fresh id List.mem_cons_self x b o hx lx hm
  have G := T.inv.grow [y]
  have bsz : b < w1.heap.size := (I1.dom id b o hm).2
  have last : ∀ z, (H ++ [y])[H.length]? = some z → z = y := fun z h => by simpa using h.symm
  have old : ∀ {i z c q}, (H ++ [y])[i]? = some z → μ i = some (c, q) → H[i]? = some z := fun {i z c q} h hm => by
    rwa [List.getElem?_append_left (T.inv.dom i c q hm).1] at h
  have own' : ∀ c, Own (μ.to H.length (b, o')) (H ++ [y]) c → Own μ H c ∨ c = b := fun c ⟨i, z, q, h1, h2, h3⟩ => by
    rcases Mu.to_inv h3 with ⟨rfl, e⟩ | ⟨-, h3⟩
    · injection e with e1 e2; exact .inr e1
    · exact .inl ⟨i, z, q, old h1 h3, h2, h3⟩
  refine ⟨⟨⟨fun i c q h => ?_, T.inv.sdom, fun i z c q hz hl h => ?_, fun i j z u c q1 q2 a1 a2 l1 l2 m1 m2 => ?_, fun i z c q hz hl h => ?_, T.inv.laid⟩,
    ⟨fun i p h => hmu i p (T.ext.mu i p h), T.ext.s, T.ext.snew, by have := T.ext.hlen; simp; omega, T.ext.os, T.ext.tape, T.ext.output, T.ext.size, T.ext.keep, T.ext.shape, fun c hc h => ?_, fun i p h h' => ?_⟩, fun i hi z c q a1 a2 a3 h => ?_⟩, hmu⟩
  · rcases Mu.to_inv h with ⟨rfl, e⟩ | ⟨-, h⟩
    · injection e with e1 e2; subst e1; exact ⟨by simp, bsz⟩
    · exact G.dom i c q h
  · rcases Mu.to_inv h with ⟨rfl, e⟩ | ⟨-, h⟩
    · injection e with e1 e2; subst e1; subst e2
      rw [last z hz]
      exact hr.imp mono rfl
    · exact (G.obj i z c q hz hl h).imp mono rfl
  · rcases Mu.to_inv m1 with ⟨rfl, e⟩ | ⟨n1, k1⟩ <;> rcases Mu.to_inv m2 with ⟨rfl, e'⟩ | ⟨n2, k2⟩
    · rfl
    · injection e with e1 e2; subst e1
      exact absurd ⟨j, u, q2, old a2 k2, l2, k2⟩ nown
    · injection e' with e1 e2; subst e1
      exact absurd ⟨i, z, q1, old a1 k1, l1, k1⟩ nown
    · exact G.inj i j z u c q1 q2 a1 a2 l1 l2 k1 k2
  · rcases Mu.to_inv h with ⟨rfl, e⟩ | ⟨-, h⟩
    · injection e with e1 e2; subst e1; exact hS
    · exact G.sep i z c q hz hl h
  · rcases own' c h with h | rfl
    · exact T.ext.own c hc h
    · omega
  · rcases Mu.to_inv h' with ⟨rfl, -⟩ | ⟨-, h'⟩
    · exact T.ext.hlen
    · exact T.ext.munew i p h h'
  · rcases own' c h with h | rfl
    · exact T.fresh i (List.mem_cons_of_mem _ hi) z c q a1 a2 a3 h
    · have := I1.inj i id z x c q o a1 hx a2 lx a3 hm
      exact hni (this ▸ hi)
theorem Th.drop {ids : List Nat} {id : Nat} (T : Th μ1 h1 w1 μ0 S0 H0 w0 S (id :: ids) μ H) : Th μ1 h1 w1 μ0 S0 H0 w0 S ids μ H :=
  ⟨T.inv, T.ext, fun i hi => T.fresh i (List.mem_cons_of_mem _ hi)⟩
theorem Th.bare {ids : List Nat} (T : Th μ1 h1 w1 μ0 S0 H0 w0 S ids μ H) (y : O) : Th μ1 h1 w1 μ0 S0 H0 w0 S ids μ (H ++ [y]) := by
  have own' : ∀ c, Own μ (H ++ [y]) c → Own μ H c := fun c ⟨i, z, q, h1, h2, h3⟩ => ⟨i, z, q, by rwa [List.getElem?_append_left (T.inv.dom i c q h3).1] at h1, h2, h3⟩
  exact ⟨T.inv.grow [y], ⟨T.ext.mu, T.ext.s, T.ext.snew, by have := T.ext.hlen; simp; omega, T.ext.os, T.ext.tape, T.ext.output, T.ext.size, T.ext.keep, T.ext.shape, fun c hc h => T.ext.own c hc (own' c h), T.ext.munew⟩,
    fun i hi z c q a1 a2 a3 h => T.fresh i hi z c q a1 a2 a3 (own' c h)⟩
theorem thaw1_cells {h : Heap} {full : Bool} {v v' : V} {H H' : Heap} (h : thaw1 h full v H = some (v', H')) : v.cells = [v] ∧ v'.sc = true := by
  unfold thaw1 at h
  split at h <;> first
    | (injection h with h; injection h with h1 h2; subst h1; exact ⟨rfl, rfl⟩)
    | (split at h
       · split at h
         · injection h with h; injection h with h1 h2; subst h1; exact ⟨rfl, rfl⟩
         · cases h
       · cases h)
    | cases h
theorem thaw1_sound (I1 : Inv μ1 S1 h1 w1) {full : Bool} (hfull : full = true → ∀ b, S1 b → S b) (hnew : ∀ b, Own μ1 h1 b → w0.heap.size ≤ b ∧ ¬ S b) {v v' : V} {H' : Heap} (h : thaw1 h1 full v H = some (v', H')) {ids : List Nat} (hnd : (v.ids ++ ids).Nodup)
    (T : Th μ1 h1 w1 μ0 S0 H0 w0 S (v.ids ++ ids) μ H) {x : Value} (hx : VRel μ1 S1 w1 v x) : ∃ μ', Th μ1 h1 w1 μ0 S0 H0 w0 S ids μ' H' ∧ VRel μ' S w1 v' x ∧ ∀ i p, μ i = some p → μ' i = some p := by
  unfold thaw1 at h
  split at h
  · injection h with h; injection h with e1 e2; subst e1; subst e2; cases hx; exact ⟨μ, T, .bool _, fun _ _ h => h⟩
  · injection h with h; injection h with e1 e2; subst e1; subst e2; cases hx; exact ⟨μ, T, .int _ _, fun _ _ h => h⟩
  · injection h with h; injection h with e1 e2; subst e1; subst e2; cases hx; exact ⟨μ, T, .str _, fun _ _ h => h⟩
  · injection h with h; injection h with e1 e2; subst e1; subst e2; cases hx; exact ⟨μ, T, .nil, fun _ _ h => h⟩
  · rename_i id s off len
    split at h
    · rename_i fl xs hr
      split at h
      · rename_i hc
        injection h with h; injection h with e1 e2; subst e1; subst e2
        obtain ⟨hle, hc⟩ := hc
        simp only [V.ids, List.cons_append, List.nil_append] at T hnd
        have hid := rowAt_inv hr
        cases hx with
        | ref0 _ _ _ a => exact ⟨μ, T.drop.bare _, .ref0 _ _ _ _, fun _ _ h => h⟩
        | ref _ _ _ _ cap b o c e fz k1 k2 k3 k4 =>
          obtain ⟨c', e', zs, g1, g2, g3, g4, g5⟩ := row_cells I1 hid k1 hle
          rw [k2] at g1
          injection g1 with g1; injection g1 with g6 g7 g8
          subst g6; subst g7; subst g8
          obtain ⟨n1, n2⟩ := hnew b ⟨id, _, o, hid, rfl, k1⟩
          have hmem : ∀ y ∈ (xs.drop off).take len, okEl s fl y = true := fun y hy => g2 y (List.mem_of_mem_drop (List.mem_of_mem_take hy))
          have hyl : ((xs.drop off).take len).length = len := by rw [List.length_take, List.length_drop]; omega
          generalize (xs.drop off).take len = ys at *
          have hrel : VRels μ S w1 (ys.flatMap V.cells) zs := by
            cases fl with
            | true => exact flat_mus g3 (List.all_eq_true.2 fun u hu => by
                obtain ⟨y, hy, hu⟩ := List.mem_flatMap.1 hu
                exact List.all_eq_true.1 (okEl_flat (hmem y hy) rfl) u hu)
            | false =>
              simp only [Bool.false_or, Bool.and_eq_true] at hc
              refine VRels.det_len g3.length fun j u hu => ?_
              obtain ⟨z, q1, q2⟩ := g3.get? j u hu
              obtain ⟨y, hy, hu'⟩ := List.mem_flatMap.1 (List.mem_of_getElem? hu)
              exact ⟨z, q1, q2.dsc_mu (List.all_eq_true.1 (List.all_eq_true.1 hc.2 y hy) u hu') (hfull hc.1) fun _ _ => rfl⟩
          have hR : ORel μ S w1 (.row s fl ys) b (o + off * s) := row_mk k2 hmem (fun j u hu => by
            obtain ⟨z, q1, q2⟩ := hrel.get? j u hu
            exact ⟨z, g4 j z q1, q2⟩) (by
            have := Nat.mul_le_mul_right s hle
            rw [Nat.add_mul] at this
            rw [hyl]
            omega)
          obtain ⟨T', m⟩ := T.add I1 hid rfl k1 n1 n2 (List.nodup_cons.1 hnd).1 hR
          refine ⟨_, T', ?_, m⟩
          have := VRel.ref (μ := μ.to H.length (b, o + off * s)) (S := S) (w := w1) H.length s 0 len cap b (o + off * s) c e (0, 0) (by simp [Mu.to]) k2 k3 (by rw [Nat.add_mul] at k4; rw [Nat.zero_add]; omega)
          simpa using this
      · cases h
    · cases h
  · cases h
theorem thaws_sound (I1 : Inv μ1 S1 h1 w1) {full : Bool} (hfull : full = true → ∀ b, S1 b → S b) (hnew : ∀ b, Own μ1 h1 b → w0.heap.size ≤ b ∧ ¬ S b) : ∀ {cs ds : List V} {μ : Mu} {H H' : Heap}, thaws h1 full cs H = some (ds, H') → ((cs.flatMap V.cells).flatMap V.ids).Nodup →
    Th μ1 h1 w1 μ0 S0 H0 w0 S ((cs.flatMap V.cells).flatMap V.ids) μ H → ∀ {xs : List Value}, VRels μ1 S1 w1 cs xs → ∃ μ', Th μ1 h1 w1 μ0 S0 H0 w0 S [] μ' H' ∧ VRels μ' S w1 ds xs ∧ ds.all V.sc = true ∧ ∀ i p, μ i = some p → μ' i = some p
  | [], ds, μ, H, H', h, _, T, xs, hx => by
    simp only [thaws, Option.some.injEq, Prod.mk.injEq] at h
    obtain ⟨rfl, rfl⟩ := h
    cases hx
    exact ⟨μ, T, .nil, rfl, fun _ _ h => h⟩
  | c :: cs, ds, μ, H, H', h, hnd, T, xs, hx => by
    simp only [thaws, Option.bind_eq_some_iff, Option.map_eq_some_iff, Prod.mk.injEq] at h
    obtain ⟨⟨d, H1⟩, q1, ⟨ds', H2⟩, q2, rfl, rfl⟩ := h
    obtain ⟨e1, e2⟩ := thaw1_cells q1
    simp only [List.flatMap_cons, e1, List.flatMap_append, List.flatMap_nil, List.append_nil] at T hnd
    cases hx with
    | cons k1 k2 =>
      obtain ⟨μ2, T2, r2, m2⟩ := thaw1_sound I1 hfull hnew q1 hnd T k1
      obtain ⟨μ3, T3, r3, a3, m3⟩ := thaws_sound I1 hfull hnew q2 (List.nodup_append.1 hnd).2.1 T2 k2
      exact ⟨μ3, T3, .cons (r2.mono m3 (fun _ h => h) (fun _ _ => rfl) fun _ c _ _ h => ⟨c, _, h, rfl⟩) r3, by simp [e2, a3], fun i p h => m3 i p (m2 i p h)⟩
end
end Go.AM

/- The machine is sound: what it answers, the program answers. -/
set_option linter.unusedVariables false
set_option linter.unusedSimpArgs false
namespace Go.AM
open Go.RowKit
section
variable {P : Program} {μ μ1 : Mu} {S S1 : Nat → Prop} {H h1 : Heap} {w w1 : World} {call : CallF}

theorem thaw1_len {h : Heap} {full : Bool} {v v' : V} {H H' : Heap} (h : thaw1 h full v H = some (v', H')) : H.length ≤ H'.length := by
  unfold thaw1 at h
  split at h <;> first
    | (injection h with h; injection h with h1 h2; subst h2; exact Nat.le_refl _)
    | (split at h
       · split at h
         · injection h with h; injection h with h1 h2; subst h2; simp
         · cases h
       · cases h)
    | cases h
theorem thaws_len {h : Heap} {full : Bool} : ∀ {vs vs' : List V} {H H' : Heap}, thaws h full vs H = some (vs', H') → H.length ≤ H'.length
  | [], vs', H, H', h => by
    simp only [thaws, Option.some.injEq, Prod.mk.injEq] at h
    rw [h.2]; exact Nat.le_refl _
  | v :: r, vs', H, H', h => by
    simp only [thaws, Option.bind_eq_some_iff, Option.map_eq_some_iff, Prod.mk.injEq] at h
    obtain ⟨⟨d, H1⟩, q1, ⟨ds', H2⟩, q2, rfl, rfl⟩ := h
    exact Nat.le_trans (thaw1_len q1) (thaws_len q2)
theorem fin_len {rm : RM} {v v' : V} {h H H' : Heap} (hf : fin rm v h H = some (v', H')) : H.length ≤ H'.length := by
  unfold fin at hf
  split at hf
  · split at hf
    · injection hf with hf; injection hf with e1 e2; subst e2; exact Nat.le_refl _
    · cases hf
  · split at hf
    · simp only [Option.map_eq_some_iff, Prod.mk.injEq] at hf
      obtain ⟨_, -, -, rfl⟩ := hf; exact Nat.le_refl _
    · cases hf
  · split at hf
    · injection hf with hf; injection hf with e1 e2; subst e2; exact Nat.le_refl _
    · split at hf
      · simp only [Option.map_eq_some_iff, Prod.mk.injEq] at hf
        obtain ⟨_, -, -, rfl⟩ := hf; exact Nat.le_refl _
      · cases hf
  · simp only [Option.map_eq_some_iff, Prod.mk.injEq] at hf
    obtain ⟨_, -, -, rfl⟩ := hf; exact Nat.le_refl _
  all_goals
    split at hf
    · split at hf
      · simp only [Option.map_eq_some_iff, Prod.mk.injEq] at hf
        obtain ⟨⟨a, b⟩, q, -, rfl⟩ := hf; exact thaws_len q
      · simp only [Option.map_eq_some_iff, Prod.mk.injEq] at hf
        obtain ⟨⟨a, b⟩, q, -, rfl⟩ := hf; exact thaws_len q
      · exact thaw1_len hf
    · cases hf
theorem runOps_len (C : ∀ f args H v H', call f args H = some (v, H') → H.length ≤ H'.length) : ∀ {os : List AO} {st st' : St}, runOps call os st = some st' → st.2.length ≤ st'.2.length
  | [], st, st', h => by simp only [runOps, Option.some.injEq] at h; rw [h]; exact Nat.le_refl _
  | o :: r, st, st', h => by
    simp only [runOps, Option.bind_eq_some_iff] at h
    obtain ⟨st1, h1, h2⟩ := h
    exact Nat.le_trans (stepAO_len C h1) (runOps_len C h2)
theorem runDraw_len (C : ∀ f args H v H', call f args H = some (v, H') → H.length ≤ H'.length) : ∀ {os : List AO} {ps : List Pend} {st st' : St}, runDraw call os ps st = some st' → st.2.length ≤ st'.2.length
  | [], ps, st, st', h => by simp only [runDraw, Option.some.injEq] at h; rw [h]; exact Nat.le_refl _
  | o :: r, ps, st, st', h => by
    simp only [runDraw, Option.bind_eq_some_iff] at h
    obtain ⟨st1, h1, h2⟩ := h
    refine Nat.le_trans (stepAO_len C h1) ?_
    split at h2
    · split at h2
      · exact runDraw_len C h2
      · cases h2
    · exact runDraw_len C h2
theorem runC_len (C : ∀ f args H v H', call f args H = some (v, H') → H.length ≤ H'.length) (n : Nat) : ∀ (c : AM.C) {st st' : St} {x : X}, runC call n c st = some (x, st') → st.2.length ≤ st'.2.length := by
  intro c
  induction c with
  | skip => intro st st' x h; simp only [runC, Option.some.injEq, Prod.mk.injEq] at h; rw [h.2]; exact Nat.le_refl _
  | stuck => intro st st' x h; simp [runC] at h
  | reg ops => intro st st' x h; simp only [runC, Option.map_eq_some_iff, Prod.mk.injEq] at h; obtain ⟨st1, h1, -, rfl⟩ := h; exact runOps_len C h1
  | draw ops => intro st st' x h; simp only [runC, Option.map_eq_some_iff, Prod.mk.injEq] at h; obtain ⟨st1, h1, -, rfl⟩ := h; exact runDraw_len C h1
  | seq a b iha ihb =>
    intro st st' x h
    simp only [runC] at h
    split at h
    · rename_i st1 hr; exact Nat.le_trans (iha hr) (ihb h)
    · exact iha h
  | cond z a b iha ihb =>
    intro st st' x h
    simp only [runC] at h
    split at h
    · exact iha h
    · exact ihb h
    · cases h
  | block id c ih =>
    intro st st' x h
    simp only [runC] at h
    split at h
    · rename_i j st1 hr
      have := ih hr
      split at h <;> (injection h with h; injection h with h1 h2; subst h2; exact this)
    · exact ih h
  | loop c ih =>
    intro st st' x h
    simp only [runC] at h
    have key : ∀ m (st : St), iter m (runC call n c) st = some (x, st') → st.2.length ≤ st'.2.length := by
      intro m
      induction m with
      | zero => intro st h; simp [iter] at h
      | succ m ihm =>
        intro st h
        simp only [iter] at h
        split at h
        · rename_i st1 hr; exact Nat.le_trans (ih hr) (ihm st1 h)
        · exact ih h
    exact key n st h
  | exit id => intro st st' x h; simp only [runC, Option.some.injEq, Prod.mk.injEq] at h; rw [h.2]; exact Nat.le_refl _
  | ret => intro st st' x h; simp only [runC, Option.some.injEq, Prod.mk.injEq] at h; rw [h.2]; exact Nat.le_refl _
theorem runF_len (C : ∀ f args H v H', call f args H = some (v, H') → H.length ≤ H'.length) {n : Nat} {fn : AF} {args : List V} {H H' : Heap} {v : V} (h : runF call n fn args H = some (v, H')) : H.length ≤ H'.length := by
  unfold runF at h
  split at h
  · rename_i st hr
    simp only [Option.map_eq_some_iff, Prod.mk.injEq] at h
    obtain ⟨_, -, -, rfl⟩ := h
    exact runC_len C n _ hr
  · rename_i st hr
    simp only [Option.map_eq_some_iff, Prod.mk.injEq] at h
    obtain ⟨_, -, -, rfl⟩ := h
    exact runC_len C n _ hr
  · cases h

theorem sc_flat : ∀ {cs : List V}, cs.all V.sc = true → cs.flatMap V.cells = cs
  | [], _ => rfl
  | c :: cs, ks => by
    simp only [List.all_cons, Bool.and_eq_true] at ks
    rw [List.flatMap_cons, cells_sc ks.1, sc_flat ks.2]; rfl
/-- A callee's answer, laid back. -/
theorem fin_sound (I : Inv μ S H w) {S2 : Nat → Prop} (hS2 : ∀ b, S b → S2 b) (I1 : Inv μ1 S1 h1 w1) (E : Ext (fun _ => none) S2 [] w μ1 S1 h1 w1) {rm : RM} (h2 : rm = .froz ∨ rm = .own → ∀ b, S2 b → S b) {v v' : V} {cv : Value} (hv : VRel μ1 S1 w1 v cv) {H' : Heap} (hf : fin rm v h1 H = some (v', H')) :
    ∃ μ' S', VRel μ' S' w1 v' cv ∧ Inv μ' S' H' w1 ∧ Ext μ S H w μ' S' H' w1 := by
  have no : ∀ b, ¬ Own (fun _ => none) [] b := fun b ⟨id, x, o, h, _⟩ => by simp at h
  have keep : ∀ b, b < w.heap.size → w1.heap[b]? = w.heap[b]? := fun b hb => E.keep b hb (no b)
  have own : ∀ b, Own μ1 h1 b → w.heap.size ≤ b ∧ b < w1.heap.size := fun b h => ⟨Nat.le_of_not_lt fun hb => no b (E.own b hb h), by obtain ⟨id, x, o, _, _, h3⟩ := h; exact (I1.dom id b o h3).2⟩
  have nS1 : ∀ b, Own μ1 h1 b → ¬ S1 b := fun b ⟨id, x, o, q1, q2, q3⟩ => I1.sep id x b o q1 q2 q3
  have BK : ∀ S', (∀ b, S b → S' b) → (∀ b, S' b → S b ∨ (w.heap.size ≤ b ∧ b < w1.heap.size)) → Inv μ S' H w1 ∧ Ext μ S H w μ S' H w1 := fun S' a b => back I E.size E.os E.tape E.output keep a b
  have frozF : ∀ {d : V}, v.cellsT.all (freshF h1) = true → deep h1 8 v = some d → ∃ μ' S', VRel μ' S' w1 d cv ∧ Inv μ' S' H w1 ∧ Ext μ S H w μ' S' H w1 := fun hc hd => by
    obtain ⟨a, b⟩ := BK (fun b => S b ∨ Own μ1 h1 b) (fun b h => .inl h) (fun b h => h.imp id (own b))
    exact ⟨μ, _, fresh_sound I1 (fun b h => .inr h) hc hd hv, a, b⟩
  have laid : ∀ (full : Bool) (S' : Nat → Prop), (full = true → ∀ b, S1 b → S' b) → (∀ b, S b → S' b) → (∀ b, S' b → S b ∨ (w.heap.size ≤ b ∧ b < w1.heap.size)) → (∀ b, Own μ1 h1 b → ¬ S' b) → ∀ {cs ds : List V} {xs : List Value}, thaws h1 full cs H = some (ds, H') → ((cs.flatMap V.cells).flatMap V.ids).Nodup → VRels μ1 S1 w1 cs xs →
      ∃ μ', VRels μ' S' w1 ds xs ∧ ds.all V.sc = true ∧ Inv μ' S' H' w1 ∧ Ext μ S H w μ' S' H' w1 := fun full S' hfl a b hno cs ds xs ht hnd hx => by
    obtain ⟨i, e⟩ := BK S' a b
    have T : Th μ1 h1 w1 μ S H w S' ((cs.flatMap V.cells).flatMap V.ids) μ H := ⟨i, e, fun id _ x c o q1 q2 q3 hO => by
      obtain ⟨id', x', o', p1, p2, p3⟩ := hO
      have := (I.dom id' c o' p3).2
      have := (own c ⟨id, x, o, q1, q2, q3⟩).1
      omega⟩
    obtain ⟨μ', T', r, sc, -⟩ := thaws_sound I1 hfl (fun b h => ⟨(own b h).1, hno b h⟩) ht hnd T hx
    exact ⟨μ', r, sc, T'.inv, T'.ext⟩
  have laidV : ∀ (full : Bool), (full = true → ∀ b, S2 b → S b) → (if (v.cellsT.flatMap V.ids).Nodup then
      match v with
      | .agg cs => (thaws h1 full cs H).map fun x => (.agg x.1, x.2)
      | .tup cs => (thaws h1 full cs H).map fun x => (.tup x.1, x.2)
      | v => thaw1 h1 full v H
    else none) = some (v', H') → ∃ μ' S', VRel μ' S' w1 v' cv ∧ Inv μ' S' H' w1 ∧ Ext μ S H w μ' S' H' w1 := fun full hfl hf' => by
    clear hf
    have hf := hf'
    clear hf'
    split at hf
    · rename_i hnd
      obtain ⟨S', p1, p2, p3, p4⟩ : ∃ S' : Nat → Prop, (full = true → ∀ b, S1 b → S' b) ∧ (∀ b, S b → S' b) ∧ (∀ b, S' b → S b ∨ (w.heap.size ≤ b ∧ b < w1.heap.size)) ∧ (∀ b, Own μ1 h1 b → ¬ S' b) := by
        cases full with
        | true => exact ⟨S1, fun _ _ h => h, fun b h => E.s b (hS2 b h), fun b h => (E.snew b h).imp (hfl rfl b) fun q => ⟨q, I1.sdom b h⟩, nS1⟩
        | false => exact ⟨S, fun h => (by cases h), fun _ h => h, fun _ h => .inl h, fun b h hs => by have := I.sdom b hs; have := (own b h).1; omega⟩
      split at hf
      · rename_i cs
        simp only [Option.map_eq_some_iff, Prod.mk.injEq] at hf
        obtain ⟨⟨ds, H1⟩, q, rfl, rfl⟩ := hf
        obtain ⟨xs, rfl, k, ks⟩ := hv.agg_inv
        have e := sc_flat ks
        obtain ⟨μ', r, sc, i, x⟩ := laid full S' p1 p2 p3 p4 q (by rw [e]; exact hnd) k
        exact ⟨μ', S', r.agg sc, i, x⟩
      · rename_i cs
        simp only [Option.map_eq_some_iff, Prod.mk.injEq] at hf
        obtain ⟨⟨ds, H1⟩, q, rfl, rfl⟩ := hf
        obtain ⟨xs, rfl, k⟩ := hv.tup_inv
        obtain ⟨μ', r, sc, i, x⟩ := laid full S' p1 p2 p3 p4 q hnd k
        exact ⟨μ', S', r.tup, i, x⟩
      · rename_i n1 n2
        have e : v.cellsT = [v].flatMap V.cells := by cases v <;> first | rfl | exact absurd rfl (n1 _) | exact absurd rfl (n2 _)
        obtain ⟨μ', r, sc, i, x⟩ := laid full S' p1 p2 p3 p4 (cs := [v]) (ds := [v']) (xs := [cv]) (by simp [thaws, hf]) (by rw [← e]; exact hnd) (.cons hv .nil)
        cases r with
        | cons r _ => exact ⟨μ', S', r, i, x⟩
    · cases hf
  cases rm with
  | scal =>
    simp only [fin] at hf
    split at hf
    · rename_i hc
      injection hf with hf; injection hf with e1 e2; subst e1; subst e2
      obtain ⟨a, b⟩ := BK S (fun _ h => h) (fun _ h => .inl h)
      exact ⟨μ, S, flat_rel hv hc, a, b⟩
    · cases hf
  | frozF =>
    simp only [fin] at hf
    split at hf
    · rename_i hc
      simp only [Option.map_eq_some_iff, Prod.mk.injEq] at hf
      obtain ⟨d, hd, rfl, rfl⟩ := hf
      exact frozF hc hd
    · cases hf
  | exact =>
    simp only [fin] at hf
    split at hf
    · injection hf with hf; injection hf with e1 e2; subst e1; subst e2
      obtain ⟨a, b⟩ := BK S (fun _ h => h) (fun _ h => .inl h)
      cases hv
      exact ⟨μ, S, .nil, a, b⟩
    · split at hf
      · rename_i hc
        simp only [Option.map_eq_some_iff, Prod.mk.injEq] at hf
        obtain ⟨d, hd, rfl, rfl⟩ := hf
        exact frozF hc hd
      · cases hf
  | froz =>
    simp only [fin, Option.map_eq_some_iff, Prod.mk.injEq] at hf
    obtain ⟨d, hd, rfl, rfl⟩ := hf
    obtain ⟨a, b⟩ := BK (fun b => S1 b ∨ Own μ1 h1 b) (fun b h => .inl (E.s b (hS2 b h))) (fun b h => h.elim (fun h => (E.snew b h).imp (h2 (.inl rfl) b) fun q => ⟨q, I1.sdom b h⟩) fun h => .inr (own b h))
    exact ⟨μ, _, deep_sound I1 (fun b h => .inl h) (fun b h => .inr h) 8 hd hv, a, b⟩
  | ownF => exact laidV false (fun h => by cases h) hf
  | own => exact laidV true (fun _ => h2 (.inr rfl)) hf

theorem deeps_sound {S2 : Nat → Prop} {n : Nat} (D : ∀ {v d : V}, deep H n v = some d → ∀ {x : Value}, VRel μ S w v x → VRel μ1 S2 w d x) : ∀ {vs ds : List V}, vs.mapM (deep H n) = some ds → ∀ {xs : List Value}, VRels μ S w vs xs → VRels μ1 S2 w ds xs
  | [], ds, h, xs, hx => by simp at h; subst h; cases hx; exact .nil
  | v :: vs, ds, h, xs, hx => by
    simp only [List.mapM_cons, Option.bind_eq_bind, Option.bind_eq_some_iff, Option.pure_def, Option.some.injEq] at h
    obtain ⟨d, h1, ds', h2, rfl⟩ := h
    cases hx with
    | cons k1 k2 => exact .cons (D h1 k1) (deeps_sound D h2 k2)
theorem datas_sound {S2 : Nat → Prop} (hS : ∀ b, S b → S2 b) {n : Nat} : ∀ {vs ds : List V}, vs.all V.data = true → vs.mapM (deep H n) = some ds → ∀ {xs : List Value}, VRels μ S w vs xs → VRels μ1 S2 w ds xs
  | [], ds, _, h, xs, hx => by simp at h; subst h; cases hx; exact .nil
  | v :: vs, ds, ha, h, xs, hx => by
    simp only [List.mapM_cons, Option.bind_eq_bind, Option.bind_eq_some_iff, Option.pure_def, Option.some.injEq] at h
    obtain ⟨d, h1, ds', h2, rfl⟩ := h
    rw [List.all_cons, Bool.and_eq_true] at ha
    cases hx with
    | cons k1 k2 => exact .cons (data_sound hS n h1 ha.1 k1) (datas_sound hS ha.2 h2 k2)
theorem mapM_len {n : Nat} : ∀ {vs ds : List V}, vs.mapM (deep H n) = some ds → ds.length = vs.length
  | [], ds, h => by simp at h; subst h; rfl
  | v :: vs, ds, h => by
    simp only [List.mapM_cons, Option.bind_eq_bind, Option.bind_eq_some_iff, Option.pure_def, Option.some.injEq] at h
    obtain ⟨d, h1, ds', h2, rfl⟩ := h
    simp [mapM_len h2]
theorem callFn_sound (hm : P.follows .mixedOrders = true) (C : CallOK P call) (n : Nat) {f : Nat} {af : AF} (hf : compFn P f af.pure af.rm = some af) {args : List V} {H H' : Heap} {v : V} (h : callFn call n af args H = some (v, H')) :
    H.length ≤ H'.length ∧ ∀ (μ : Mu) (S : Nat → Prop) (w : World) (cargs : Array Value), Inv μ S H w → VRels μ S w args cargs.toList →
      Calls P f cargs w fun e w' => ∃ cv μ' S', e = .returned cv ∧ VRel μ' S' w' v cv ∧ Inv μ' S' H' w' ∧ Ext μ S H w μ' S' H' w' := by
  have CL : ∀ f args H v H', call f args H = some (v, H') → H.length ≤ H'.length := fun f args H v H' h => (C f args H v H' h).1.2
  unfold callFn at h
  split at h
  · rename_i hl
    split at h
    · split at h
      · cases h
      · rename_i hrm
        simp only [Option.bind_eq_some_iff] at h
        obtain ⟨ds, hd, ⟨v1, h1⟩, hr, hfin⟩ := h
        dsimp only at hfin
        refine ⟨fin_len hfin, fun μ S w cargs I hx => ?_⟩
        obtain ⟨S2, hS2, h2, hS2sz, hargs⟩ : ∃ S2 : Nat → Prop, (∀ b, S b → S2 b) ∧ (af.rm = .froz ∨ af.rm = .own → ∀ b, S2 b → S b) ∧ (∀ b, S2 b → b < w.heap.size) ∧ VRels (fun _ => none) S2 w ds cargs.toList := by
          by_cases hfo : af.rm = .froz ∨ af.rm = .own
          · have hall : args.all V.data = true := by
              cases hA : args.all V.data with
              | true => rfl
              | false => exact absurd ⟨hfo, by rw [hA]; simp⟩ hrm
            exact ⟨S, fun _ h => h, fun _ _ h => h, I.sdom, datas_sound (fun _ h => h) hall hd hx⟩
          · exact ⟨fun b => S b ∨ Own μ H b, fun _ h => .inl h, fun h => absurd h hfo, fun b h => h.elim (I.sdom b) fun ⟨id, x, o, _, _, q⟩ => (I.dom id b o q).2, deeps_sound (deep_sound I (fun _ h => .inl h) (fun _ h => .inr h) 8) hd hx⟩
        have I0 : Inv (fun _ => none) S2 [] w := ⟨fun _ _ _ h => (by cases h), hS2sz, fun _ _ _ _ h _ _ => (by simp at h), fun _ _ _ _ _ _ _ h _ _ _ _ _ => (by simp at h), fun _ _ _ _ h _ _ => (by simp at h), I.laid.imp hS2 fun _ _ => rfl⟩
        refine Calls.mono (runF_sound hm C n hf hr (by rw [mapM_len hd, hl]) I0 hargs) fun e w' ⟨cv, μ1, S1, he, r, i1, e1⟩ => ?_
        obtain ⟨μ', S', a, b, c⟩ := fin_sound I hS2 i1 e1 h2 r hfin
        exact ⟨cv, μ', S', he, a, b, c⟩
    · exact ⟨runF_len CL h, fun μ S w cargs I hx => runF_sound hm C n hf h hl I hx⟩
  · cases h
/-- The table says of the program's functions what they are. -/
def TblOK (P : Program) (tbl : Nat → Option Fn) : Prop := ∀ f fn, tbl f = some fn → canCall P f = true ∧ match fn with
  | .code af => compFn P f af.pure af.rm = some af
  | .ext g => ∀ args H v H', g args H = some (v, H') → H.length ≤ H'.length ∧ ∀ (μ : Mu) (S : Nat → Prop) (w : World) (cargs : Array Value), Inv μ S H w → VRels μ S w args cargs.toList →
      Calls P f cargs w fun e w' => ∃ cv μ' S', e = .returned cv ∧ VRel μ' S' w' v cv ∧ Inv μ' S' H' w' ∧ Ext μ S H w μ' S' H' w'
theorem callN_sound (hm : P.follows .mixedOrders = true) {tbl : Nat → Option Fn} (T : TblOK P tbl) : ∀ n, CallOK P (callN tbl n)
  | 0 => fun f args H v H' h => by simp [callN] at h
  | n + 1 => fun f args H v H' h => by
    simp only [callN] at h
    split at h
    · rename_i af ht
      obtain ⟨a, b⟩ := T f _ ht
      obtain ⟨c, d⟩ := callFn_sound hm (callN_sound hm T n) n b h
      exact ⟨⟨a, c⟩, d⟩
    · rename_i g ht
      obtain ⟨a, b⟩ := T f _ ht
      obtain ⟨c, d⟩ := b args H v H' h
      exact ⟨⟨a, c⟩, d⟩
    · cases h
end
end Go.AM

/- More fuel changes nothing; rules to walk by. -/
set_option linter.unusedVariables false
set_option linter.unusedSimpArgs false
namespace Go.AM
open Go.RowKit

def CLe (a b : CallF) : Prop := ∀ f xs H r, a f xs H = some r → b f xs H = some r
section
variable {call call' : CallF}
theorem stepE_mono (h : CLe call call') {ρ : Opd → V} {H : Heap} {o : EOp} {r : V × Heap} (e : stepE call ρ H o = some r) : stepE call' ρ H o = some r := by
  cases o with
  | call f args => exact h _ _ _ _ e
  | callv g args =>
    simp only [stepE] at e ⊢
    split at e
    · exact h _ _ _ _ e
    · cases e
  | _ => exact e
theorem stepA_mono (h : CLe call call') {ρ : Opd → V} {H : Heap} {o : AOp} {r : V × Heap} (e : stepA call ρ H o = some r) : stepA call' ρ H o = some r := by
  cases o with
  | e o => exact stepE_mono h e
  | _ => exact e
theorem stepAO_mono (h : CLe call call') {o : AO} {st st' : St} (e : stepAO call o st = some st') : stepAO call' o st = some st' := by
  unfold stepAO at e ⊢
  split at e
  · rename_i hw
    simp only [Option.map_eq_some_iff] at e ⊢
    obtain ⟨x, h1, h2⟩ := e
    exact ⟨x, stepA_mono h h1, h2⟩
  · rename_i hw; exact e
  · cases e
theorem runOps_mono (h : CLe call call') : ∀ {os : List AO} {st st' : St}, runOps call os st = some st' → runOps call' os st = some st'
  | [], st, st', e => e
  | o :: r, st, st', e => by
    simp only [runOps, Option.bind_eq_some_iff] at e ⊢
    obtain ⟨s1, h1, h2⟩ := e
    exact ⟨s1, stepAO_mono h h1, runOps_mono h h2⟩
theorem runDraw_mono (h : CLe call call') : ∀ {os : List AO} {ps : List Pend} {st st' : St}, runDraw call os ps st = some st' → runDraw call' os ps st = some st'
  | [], ps, st, st', e => e
  | o :: r, ps, st, st', e => by
    simp only [runDraw, Option.bind_eq_some_iff] at e ⊢
    obtain ⟨s1, h1, h2⟩ := e
    refine ⟨s1, stepAO_mono h h1, ?_⟩
    split at h2
    · rename_i hE
      split at h2
      · rename_i hA
        rw [if_pos hE, if_pos hA]
        exact runDraw_mono h h2
      · cases h2
    · rename_i hE
      rw [if_neg hE]
      exact runDraw_mono h h2
theorem iter_mono {f g : St → Option (X × St)} (h : ∀ st r, f st = some r → g st = some r) : ∀ {n m : Nat} {st : St} {r : X × St}, n ≤ m → iter n f st = some r → iter m g st = some r
  | 0, m, st, r, _, e => by simp [iter] at e
  | n + 1, 0, st, r, hl, e => by omega
  | n + 1, m + 1, st, r, hl, e => by
    simp only [iter] at e ⊢
    split at e
    · rename_i s1 h1
      rw [h _ _ h1]
      exact iter_mono h (by omega) e
    · rename_i hne
      rw [h _ _ e]
      obtain ⟨x, s⟩ := r
      cases x with
      | norm => exact absurd e (hne s)
      | exit j => rfl
      | ret => rfl
theorem runC_mono (h : CLe call call') {n m : Nat} (hl : n ≤ m) : ∀ (c : AM.C) {st : St} {r : X × St}, runC call n c st = some r → runC call' m c st = some r := by
  intro c
  induction c with
  | skip => intro st r e; exact e
  | stuck => intro st r e; exact e
  | reg ops => intro st r e; simp only [runC, Option.map_eq_some_iff] at e ⊢; obtain ⟨s, h1, h2⟩ := e; exact ⟨s, runOps_mono h h1, h2⟩
  | draw ops => intro st r e; simp only [runC, Option.map_eq_some_iff] at e ⊢; obtain ⟨s, h1, h2⟩ := e; exact ⟨s, runDraw_mono h h1, h2⟩
  | seq a b iha ihb =>
    intro st r e
    simp only [runC] at e ⊢
    split at e
    · rename_i s1 h1
      rw [iha h1]
      exact ihb e
    · rename_i hne
      rw [iha e]
      obtain ⟨x, s⟩ := r
      cases x with
      | norm => exact absurd e (hne s)
      | exit j => rfl
      | ret => rfl
  | cond z a b iha ihb =>
    intro st r e
    simp only [runC] at e ⊢
    split at e
    · exact iha e
    · exact ihb e
    · cases e
  | block id c ih =>
    intro st r e
    simp only [runC] at e ⊢
    split at e
    · rename_i j s1 h1
      rw [ih h1]
      exact e
    · rename_i hne
      rw [ih e]
      obtain ⟨x, s⟩ := r
      cases x with
      | exit j => exact absurd e (hne j s)
      | norm => rfl
      | ret => rfl
  | loop c ih =>
    intro st r e
    simp only [runC] at e ⊢
    exact iter_mono (fun st r => ih) hl e
  | exit id => intro st r e; exact e
  | ret => intro st r e; exact e
theorem runF_mono (h : CLe call call') {n m : Nat} (hl : n ≤ m) {fn : AF} {args : List V} {H : Heap} {r : V × Heap} (e : runF call n fn args H = some r) : runF call' m fn args H = some r := by
  unfold runF at e ⊢
  split at e
  · rename_i s h1; rw [runC_mono h hl _ h1]; exact e
  · rename_i s h1; rw [runC_mono h hl _ h1]; exact e
  · cases e
theorem callFn_mono (h : CLe call call') {n m : Nat} (hl : n ≤ m) {fn : AF} {args : List V} {H : Heap} {r : V × Heap} (e : callFn call n fn args H = some r) : callFn call' m fn args H = some r := by
  unfold callFn at e ⊢
  split at e
  · rename_i h1
    split at e
    · rename_i h2
      split at e
      · cases e
      · rename_i h3
        rw [if_pos h1, if_pos h2, if_neg h3]
        simp only [Option.bind_eq_some_iff] at e ⊢
        obtain ⟨ds, q1, x, q2, q3⟩ := e
        exact ⟨ds, q1, x, runF_mono h hl q2, q3⟩
    · rename_i h2
      rw [if_pos h1, if_neg h2]
      exact runF_mono h hl e
  · cases e
end
theorem callN_mono (T : Nat → Option Fn) : ∀ {n m : Nat}, n ≤ m → CLe (callN T n) (callN T m)
  | 0, m, _ => fun f xs H r e => by simp [callN] at e
  | n + 1, 0, hl => by omega
  | n + 1, m + 1, hl => fun f xs H r e => by
    simp only [callN] at e ⊢
    split at e
    · rename_i fn ht
      exact callFn_mono (callN_mono T (by omega)) (by omega) e
    · rename_i g ht
      exact e
    · cases e

/-- A function's answer. -/
def Ans (T : Nat → Option Fn) (f : Nat) (xs : List V) (H : Heap) (v : V) (H' : Heap) : Prop := ∃ n, callN T n f xs H = some (v, H')
/-- Slots by their numbers; what is not there is not known. -/
abbrev Sl := List (Nat × V)
def get : Sl → Nat → V
  | [], _ => .undef
  | (i, v) :: r, t => if i = t then v else get r t
def keepS (ks : List Nat) (A : Sl) : Sl := ks.map fun k => (k, get A k)
def evS (A : Sl) : Opd → V
  | .t i => get A i
  | .c v => v
def putS (A : Sl) (d : Option Nat) (v : V) : Sl :=
  match d with
  | some i => (i, v) :: A
  | none => A
def Low (A : Sl) (sl : List V) : Prop := ∀ t, get A t = .undef ∨ get A t = sl.getD t .undef
def V.known : V → Bool
  | .undef => false
  | _ => true
def wantsS (A : Sl) : Option (Nat × Bool) → Option Bool
  | none => some true
  | some (g, b) => match get A g with
    | .bool t => some (t == b)
    | .tup [] => some false
    | _ => none
section
variable {T : Nat → Option Fn}
def callK (T : Nat → Option Fn) (f : Nat) (xs : List V) (H : Heap) (K : V → Heap → Prop) : Prop := ∃ v H', Ans T f xs H v H' ∧ K v H'
def optK (o : Option V) (K : V → Prop) : Prop := match o with
  | some v => K v
  | none => False
def optE (o : Option (V × Heap)) (K : V → Heap → Prop) : Prop := match o with
  | some (v, H') => K v H'
  | none => False
def optL (H : Heap) (o : Option (O × V)) (K : V → Heap → Prop) : Prop := match o with
  | some (x, v) => K v (H ++ [x])
  | none => False
def fnK (v : V) (K : Nat → List V → List V → Prop) : Prop := match v with
  | .fn f p c => K f p c
  | _ => False
/-- One operation, and what holds behind it. -/
def opK (T : Nat → Option Fn) (ρ : Opd → V) (H : Heap) : AOp → (V → Heap → Prop) → Prop
  | .e (.call f xs), K => (xs.map ρ).all V.known = true ∧ callK T f (xs.map ρ) H K
  | .e (.callv g xs), K => (xs.map ρ).all V.known = true ∧ fnK (ρ g) fun f p c => callK T f (p ++ xs.map ρ ++ c) H K
  | .e o, K => optE (stepE (fun _ _ _ => none) ρ H o) K
  | .p (.mkfn f p c), K => ((p ++ c).map ρ).all V.known = true ∧ K (.fn f (p.map ρ) (c.map ρ)) H
  | .p o, K => optK (stepP ρ o) fun v => K v H
  | .r o, K => optK (stepR ρ H o) fun v => K v H
  | .l o, K => optL H (stepL ρ H.length o) K
def guardK (w : Option Bool) (a b : Prop) : Prop := match w with
  | some true => a
  | some false => b
  | none => False
@[congr] theorem optK_congr {o o' : Option V} {K : V → Prop} (h : o = o') : optK o K = optK o' K := by rw [h]
@[congr] theorem optE_congr {o o' : Option (V × Heap)} {K : V → Heap → Prop} (h : o = o') : optE o K = optE o' K := by rw [h]
@[congr] theorem optL_congr {H H' : Heap} {o o' : Option (O × V)} {K : V → Heap → Prop} (h' : H = H') (h : o = o') : optL H o K = optL H' o' K := by rw [h, h']
@[congr] theorem fnK_congr {v v' : V} {K : Nat → List V → List V → Prop} (h : v = v') : fnK v K = fnK v' K := by rw [h]
@[congr] theorem guardK_congr {w w' : Option Bool} {a b : Prop} (h : w = w') : guardK w a b = guardK w' a b := by rw [h]
@[simp] theorem optK_some {v : V} {K : V → Prop} : optK (some v) K = K v := rfl
@[simp] theorem optK_none {K : V → Prop} : optK none K = False := rfl
@[simp] theorem optE_some {v : V} {H : Heap} {K : V → Heap → Prop} : optE (some (v, H)) K = K v H := rfl
@[simp] theorem optE_none {K : V → Heap → Prop} : optE none K = False := rfl
@[simp] theorem optL_some {H : Heap} {x : O} {v : V} {K : V → Heap → Prop} : optL H (some (x, v)) K = K v (H ++ [x]) := rfl
@[simp] theorem optL_none {H : Heap} {K : V → Heap → Prop} : optL H none K = False := rfl
@[simp] theorem fnK_fn {f : Nat} {p c : List V} {K : Nat → List V → List V → Prop} : fnK (.fn f p c) K = K f p c := rfl
@[simp] theorem guardK_true {a b : Prop} : guardK (some true) a b = a := rfl
@[simp] theorem guardK_false {a b : Prop} : guardK (some false) a b = b := rfl
@[simp] theorem guardK_none {a b : Prop} : guardK none a b = False := rfl
end
end Go.AM

/- What is known of fewer slots holds of all. -/
set_option linter.unusedVariables false
set_option linter.unusedSimpArgs false
namespace Go.AM
open Go.RowKit
section
variable {ρ ρ' : Opd → V}
def Lw (ρ ρ' : Opd → V) : Prop := ∀ x, ρ x = .undef ∨ ρ x = ρ' x
theorem Lw.map (L : Lw ρ ρ') : ∀ {xs : List Opd}, (xs.map ρ).all V.known = true → xs.map ρ = xs.map ρ'
  | [], _ => rfl
  | x :: r, h => by
    simp only [List.map_cons, List.all_cons, Bool.and_eq_true] at h
    have := L.map h.2
    rcases L x with hx | hx
    · rw [hx] at h; simp [V.known] at h
    · simp only [List.map_cons, hx, this]
theorem undef_cells : V.cells .undef = [.undef] := rfl
theorem build_low (L : Lw ρ ρ') : ∀ {ps : List (Nat × Nat × Opd)} {z cs : List V}, buildCells z (ps.map fun p => (p.1, p.2.1, ρ p.2.2)) = some cs → buildCells z (ps.map fun p => (p.1, p.2.1, ρ' p.2.2)) = some cs
  | [], z, cs, h => h
  | (a, b, x) :: r, z, cs, h => by
    simp only [List.map_cons, buildCells] at h ⊢
    rcases L x with hx | hx
    · rw [hx] at h
      simp [undef_cells, V.sc] at h
    · rw [← hx]
      split at h
      · rename_i hc
        rw [if_pos hc]
        exact build_low L h
      · cases h
theorem bd_low (L : Lw ρ ρ') {o : Option Opd} {d m j : Nat} (h : bdOf (o.map ρ) d m = some j) : bdOf (o.map ρ') d m = some j := by
  cases o with
  | none => exact h
  | some x =>
    rcases L x with hx | hx
    · simp [hx, bdOf] at h
    · simpa [hx] using h
theorem stepP_low (L : Lw ρ ρ') {o : POp} (hn : ∀ f p c, o ≠ .mkfn f p c) {v : V} (h : stepP ρ o = some v) : ∃ v', stepP ρ' o = some v' ∧ (v = .undef ∨ v = v') := by
  cases o with
  | mov x =>
    simp only [stepP, Option.some.injEq] at h ⊢
    subst h
    exact ⟨_, rfl, L x⟩
  | pick c a b =>
    simp only [stepP] at h ⊢
    rcases L c with hc | hc
    · rw [hc] at h; cases h
    · rw [← hc]
      split at h
      · rename_i t ht
        injection h with h; subst h
        cases t with
        | true => exact ⟨_, rfl, by simpa using L a⟩
        | false => exact ⟨_, rfl, by simpa using L b⟩
      · cases h
  | build z ps =>
    simp only [stepP, Option.map_eq_some_iff] at h ⊢
    obtain ⟨cs, h1, rfl⟩ := h
    exact ⟨_, ⟨cs, build_low L h1, rfl⟩, .inr rfl⟩
  | mkfn f p c => exact absurd rfl (hn f p c)
  | slc s x lo hi =>
    refine ⟨v, ?_, .inr rfl⟩
    simp only [stepP] at h ⊢
    rcases L x with hx | hx
    · rw [hx] at h; cases h
    · rw [← hx]
      split at h
      · simp only [Option.bind_eq_bind, Option.bind_eq_some_iff] at h ⊢
        obtain ⟨a, h1, b, h2, h3⟩ := h
        exact ⟨a, bd_low L h1, b, bd_low L h2, h3⟩
      · simp only [Option.bind_eq_bind, Option.bind_eq_some_iff] at h ⊢
        obtain ⟨a, h1, b, h2, h3⟩ := h
        exact ⟨a, bd_low L h1, b, bd_low L h2, h3⟩
      · simp only [Option.bind_eq_bind, Option.bind_eq_some_iff] at h ⊢
        obtain ⟨a, h1, b, h2, h3⟩ := h
        exact ⟨a, bd_low L h1, b, bd_low L h2, h3⟩
      · cases h
  | sls x lo hi =>
    refine ⟨v, ?_, .inr rfl⟩
    simp only [stepP] at h ⊢
    rcases L x with hx | hx
    · rw [hx] at h; cases h
    · rw [← hx]
      split at h
      · simp only [Option.bind_eq_bind, Option.bind_eq_some_iff] at h ⊢
        obtain ⟨a, h1, b, h2, h3⟩ := h
        exact ⟨a, bd_low L h1, b, bd_low L h2, h3⟩
      · cases h
  | nilck x => refine ⟨v, ?_, .inr rfl⟩; rcases L x with hx | hx <;> simp only [stepP, hx] at h ⊢ <;> first | exact h | cases h
  | isnil k n x => refine ⟨v, ?_, .inr rfl⟩; rcases L x with hx | hx <;> simp only [stepP, hx] at h ⊢ <;> first | exact h | (cases k <;> simp [nilB] at h)
  | un o x => refine ⟨v, ?_, .inr rfl⟩; rcases L x with hx | hx <;> simp only [stepP, hx] at h ⊢ <;> first | exact h | (cases o <;> simp [stepUn] at h)
  | conv k x => refine ⟨v, ?_, .inr rfl⟩; rcases L x with hx | hx <;> simp only [stepP, hx] at h ⊢ <;> first | exact h | cases h
  | fad o x => refine ⟨v, ?_, .inr rfl⟩; rcases L x with hx | hx <;> simp only [stepP, hx] at h ⊢ <;> first | exact h | cases h
  | fld o s x => refine ⟨v, ?_, .inr rfl⟩; rcases L x with hx | hx <;> simp only [stepP, hx] at h ⊢ <;> first | exact h | cases h
  | ext x i => refine ⟨v, ?_, .inr rfl⟩; rcases L x with hx | hx <;> simp only [stepP, hx] at h ⊢ <;> first | exact h | cases h
  | len s x => refine ⟨v, ?_, .inr rfl⟩; rcases L x with hx | hx <;> simp only [stepP, hx] at h ⊢ <;> first | exact h | (cases s <;> cases h)
  | bin o x y => refine ⟨v, ?_, .inr rfl⟩; rcases L x with hx | hx <;> rcases L y with hy | hy <;> simp only [stepP, hx, hy] at h ⊢ <;> first | exact h | simp [stepBin] at h | (rename_i a; revert h; cases (ρ' x) <;> simp [stepBin])
  | beq n x y => refine ⟨v, ?_, .inr rfl⟩; rcases L x with hx | hx <;> rcases L y with hy | hy <;> simp only [stepP, hx, hy] at h ⊢ <;> first | exact h | cases h | (revert h; cases (ρ' x) <;> simp)
  | eqs n ks x y => refine ⟨v, ?_, .inr rfl⟩; rcases L x with hx | hx <;> rcases L y with hy | hy <;> simp only [stepP, hx, hy] at h ⊢ <;> first | exact h | cases h | (revert h; cases (ρ' x) <;> simp)
  | iad s x y => refine ⟨v, ?_, .inr rfl⟩; rcases L x with hx | hx <;> rcases L y with hy | hy <;> simp only [stepP, hx, hy] at h ⊢ <;> first | exact h | cases h | (revert h; cases (ρ' x) <;> simp [ixOf])
  | iar n s x y => refine ⟨v, ?_, .inr rfl⟩; rcases L x with hx | hx <;> rcases L y with hy | hy <;> simp only [stepP, hx, hy] at h ⊢ <;> first | exact h | cases h | (revert h; cases (ρ' x) <;> simp [ixOf])
  | ixs x y => refine ⟨v, ?_, .inr rfl⟩; rcases L x with hx | hx <;> rcases L y with hy | hy <;> simp only [stepP, hx, hy] at h ⊢ <;> first | exact h | cases h | (revert h; cases (ρ' x) <;> simp [ixOf])
  | ixa n s x y => refine ⟨v, ?_, .inr rfl⟩; rcases L x with hx | hx <;> rcases L y with hy | hy <;> simp only [stepP, hx, hy] at h ⊢ <;> first | exact h | cases h | (revert h; cases (ρ' x) <;> simp [ixOf])
  | min x y => refine ⟨v, ?_, .inr rfl⟩; rcases L x with hx | hx <;> rcases L y with hy | hy <;> simp only [stepP, hx, hy] at h ⊢ <;> first | exact h | cases h | (revert h; cases (ρ' x) <;> simp)
  | max x y => refine ⟨v, ?_, .inr rfl⟩; rcases L x with hx | hx <;> rcases L y with hy | hy <;> simp only [stepP, hx, hy] at h ⊢ <;> first | exact h | cases h | (revert h; cases (ρ' x) <;> simp)
theorem conf_undef (kt : KT) : kt.conf .undef = false := by cases kt with
  | one k => cases k <;> rfl
  | many ks => rfl
theorem stepR_low (L : Lw ρ ρ') {o : ROp} {H : Heap} {v : V} (h : stepR ρ H o = some v) : (∀ H', stepR ρ' H' o = stepR ρ H' o) := by
  cases o with
  | load sh a =>
    rcases L a with hx | hx
    · simp [stepR, hx] at h
    · intro H'; simp only [stepR, hx]
  | look kt z ok m k =>
    rcases L k with hk | hk
    · simp [stepR, hk, conf_undef] at h
    · rcases L m with hm | hm
      · simp [stepR, hm] at h
      · intro H'; simp only [stepR, hk, hm]
  | lenm m =>
    rcases L m with hm | hm
    · simp [stepR, hm] at h
    · intro H'; simp only [stepR, hm]
  | b2s x =>
    rcases L x with hx | hx
    · simp [stepR, hx, elems] at h
    · intro H'; simp only [stepR, hx]
theorem okEl_undef (s : Nat) (fl : Bool) : okEl s fl .undef = false := by simp [okEl, undef_cells, V.sc]
theorem mks_low (L : Lw ρ ρ') {s : Nat} {fl : Bool} : ∀ {ps : List (Nat × Opd)} {z xs : List V}, ps.foldlM (mksStep ρ s fl) z = some xs → ps.foldlM (mksStep ρ' s fl) z = some xs
  | [], z, xs, h => h
  | (i, x) :: r, z, xs, h => by
    simp only [List.foldlM_cons, Option.bind_eq_bind, Option.bind_eq_some_iff] at h ⊢
    obtain ⟨a, h1, h2⟩ := h
    rcases L x with hx | hx
    · simp [mksStep, hx, okEl_undef] at h1
    · exact ⟨a, by simpa [mksStep, hx] using h1, mks_low L h2⟩
theorem stepL_low (L : Lw ρ ρ') {o : LOp} {id : Nat} {x : O × V} (h : stepL ρ id o = some x) : stepL ρ' id o = some x := by
  cases o with
  | alloc s fl z => exact h
  | box s fl a =>
    rcases L a with hx | hx
    · simp [stepL, hx, okEl_undef] at h
    · simpa only [stepL, hx] using h
  | mks s fl z n ps =>
    simp only [stepL, Option.bind_eq_bind, Option.bind_eq_some_iff] at h ⊢
    obtain ⟨xs, h1, h2⟩ := h
    exact ⟨xs, mks_low L h1, h2⟩
  | make s fl z b l c => rcases L l with hx | hx <;> rcases L c with hy | hy <;> simp only [stepL, hx, hy] at h ⊢ <;> first | exact h | cases h | (revert h; cases (ρ' l) <;> simp)
  | mkmap kt => exact h
  | mkmaph kt a => rcases L a with hx | hx <;> simp only [stepL, hx] at h ⊢ <;> first | exact h | cases h
  | allocT t => exact h
  | boxT t a =>
    rcases L a with hx | hx
    · simp [stepL, hx] at h
    · simpa only [stepL, hx] using h
theorem elems_undef (H : Heap) : elems H .undef = none := rfl
theorem store_undef {H : Heap} {n : Nat} (a : V) : storeAt H n a .undef = none := by
  unfold storeAt
  split
  · rename_i id s i fo
    cases hr : rowAt H id s with
    | none => rfl
    | some p =>
      obtain ⟨fl, xs⟩ := p
      simp only [Option.bind_eq_bind, Option.bind_some]
      cases hx : xs[i]? with
      | none => rfl
      | some y => simp [undef_cells, V.sc]
  · rfl
theorem app_undef {H : Heap} {s b : Nat} {fl : Bool} (ys : List V) : appendTo H s fl b .undef ys = none := by
  unfold appendTo
  split
  · rfl
  · split <;> rfl
theorem stepE_low (L : Lw ρ ρ') {call : CallF} {o : EOp} (hc : ∀ f xs, o ≠ .call f xs) (hv : ∀ g xs, o ≠ .callv g xs) {H : Heap} {x : V × Heap} (h : stepE call ρ H o = some x) : stepE call ρ' H o = some x := by
  cases o with
  | store n a y =>
    rcases L a with hx | hx <;> rcases L y with hy | hy <;> simp only [stepE, hx, hy, store_undef] at h ⊢ <;> first | exact h | cases h | simp [storeAt] at h
  | app s fl b a y =>
    rcases L a with hx | hx <;> rcases L y with hy | hy <;> simp only [stepE, hx, hy, elems_undef, app_undef] at h ⊢ <;> first | exact h | cases h | simp at h
  | copy s a y =>
    rcases L a with hx | hx <;> rcases L y with hy | hy <;> simp only [stepE, hx, hy, elems_undef] at h ⊢ <;> first | exact h | cases h | (revert h; cases (ρ' a) <;> simp)
  | clear s z a =>
    rcases L a with hx | hx <;> simp only [stepE, hx] at h ⊢ <;> first | exact h | cases h
  | mup kt m k y =>
    rcases L m with hx | hx
    · simp [stepE, hx] at h
    · rcases L k with hk | hk
      · exfalso
        simp only [stepE, hk, conf_undef] at h
        split at h
        · split at h
          · simp at h
          · cases h
        · cases h
      · rcases L y with hy | hy
        · exfalso
          simp only [stepE, hy, V.flat1] at h
          split at h
          · split at h
            · simp at h
            · cases h
          · cases h
        · simpa only [stepE, hx, hk, hy] using h
  | call f xs => exact absurd rfl (hc f xs)
  | callv g xs => exact absurd rfl (hv g xs)
  | s2b a =>
    rcases L a with hx | hx <;> simp only [stepE, hx] at h ⊢ <;> first | exact h | cases h
end
end Go.AM

/- Rules to walk by, over the slots that matter. -/
set_option linter.unusedVariables false
set_option linter.unusedSimpArgs false
namespace Go.AM
open Go.RowKit
abbrev SS := Sl × Heap
def opsK (T : Nat → Option Fn) : List AO → SS → (SS → Prop) → Prop
  | [], st, K => K st
  | o :: r, st, K => guardK (wantsS st.1 o.guard) (opK T (evS st.1) st.2 o.op fun v H' => opsK T r (putS st.1 o.dst v, H') K) (opsK T r (putS st.1 o.dst (.tup []), st.2) K)
def pendS (o : AO) (st st' : SS) : List Pend :=
  if o.re = 0 then [] else
  match o.op, wantsS st.1 o.guard with
  | .r q, some true => [(fun H => decide (stepR (evS st.1) H q = stepR (evS st.1) st.2 q), o.re)]
  | .l _, some true => [(fun H => decide (H[st.2.length]? = st'.2[st.2.length]?), o.re)]
  | _, _ => []
def nextK (o : AO) (st : SS) (ps : List Pend) (D : List Pend → SS → Prop) (st' : SS) : Prop :=
  if isE o.op = true then again ps st'.2 = true ∧ D (lower ps) st' else D (pendS o st st' ++ ps) st'
def drawK (T : Nat → Option Fn) : List AO → List Pend → SS → (SS → Prop) → Prop
  | [], _, st, K => K st
  | o :: r, ps, st, K => guardK (wantsS st.1 o.guard) (opK T (evS st.1) st.2 o.op fun v H' => nextK o st ps (fun ps' st' => drawK T r ps' st' K) (putS st.1 o.dst v, H')) (nextK o st ps (fun ps' st' => drawK T r ps' st' K) (putS st.1 o.dst (.tup []), st.2))
section
variable {T : Nat → Option Fn}
theorem Low.ev {A : Sl} {sl : List V} (L : Low A sl) : Lw (evS A) (ev sl) := fun x => by
  cases x with
  | t i => exact L i
  | c v => exact .inr rfl
theorem wants_low {A : Sl} {sl : List V} (L : Low A sl) {g : Option (Nat × Bool)} {b : Bool} (h : wantsS A g = some b) : wants sl g = some b := by
  cases g with
  | none => exact h
  | some p =>
    obtain ⟨g, c⟩ := p
    simp only [wantsS] at h
    rcases L g with hg | hg
    · rw [hg] at h; cases h
    · rw [hg] at h; exact h
def dstLt (N : Nat) (d : Option Nat) : Bool := match d with | some i => decide (i < N) | none => true
theorem put_low {A : Sl} {sl : List V} (L : Low A sl) {d : Option Nat} (hd : dstLt sl.length d = true) {v v' : V} (h : v = .undef ∨ v = v') : Low (putS A d v) (putD sl d v') := by
  cases d with
  | none => exact L
  | some i =>
    intro t
    simp only [dstLt, decide_eq_true_eq] at hd
    simp only [putS, putD, get]
    by_cases e : i = t
    · subst e
      simp only [if_true]
      rcases h with h | h
      · exact .inl h
      · right; rw [h]; simp [List.getD, hd]
    · simp only [if_neg e]
      rcases L t with h | h
      · exact .inl h
      · right; rw [h]; simp [List.getD, List.getElem?_set_ne e]
theorem putD_len (sl : List V) (d : Option Nat) (v : V) : (putD sl d v).length = sl.length := by cases d <;> simp [putD]
theorem opK_step {ρ ρ' : Opd → V} (L : Lw ρ ρ') {H : Heap} {o : AOp} {K : V → Heap → Prop} (h : opK T ρ H o K) : ∃ n v' H', stepA (callN T n) ρ' H o = some (v', H') ∧ ∃ v, (v = .undef ∨ v = v') ∧ K v H' ∧
    (∀ q, o = .r q → ∀ H', stepR ρ' H' q = stepR ρ H' q) ∧ (∀ q, o = .l q → ∃ x, H' = H ++ [x]) := by
  cases o with
  | p o =>
    by_cases hm : ∃ f p c, o = .mkfn f p c
    · obtain ⟨f, p, c, rfl⟩ := hm
      simp only [opK, optK, optE, optL, fnK] at h
      have e1 := L.map h.1
      simp only [List.map_append] at e1
      have e2 : p.map ρ = p.map ρ' ∧ c.map ρ = c.map ρ' := List.append_inj e1 (by simp)
      exact ⟨0, .fn f (p.map ρ') (c.map ρ'), H, by simp [stepA, stepP], .fn f (p.map ρ') (c.map ρ'), .inr rfl, by rw [← e2.1, ← e2.2]; exact h.2, (fun q e => by cases e), (fun q e => by cases e)⟩
    · have hk : ∃ v, stepP ρ o = some v ∧ K v H := by
        cases o with
        | mkfn f p c => exact absurd ⟨f, p, c, rfl⟩ hm
        | _ =>
          simp only [opK, optK, optE, optL, fnK] at h
          split at h
          · rename_i v hv; exact ⟨v, hv, h⟩
          · cases h
      obtain ⟨v, hv, hk⟩ := hk
      obtain ⟨v', h1, h2⟩ := stepP_low L (fun f p c e => hm ⟨f, p, c, e⟩) hv
      exact ⟨0, v', H, by simp [stepA, h1], v, h2, hk, (fun q e => by cases e), (fun q e => by cases e)⟩
  | r o =>
    simp only [opK, optK, optE, optL, fnK] at h
    split at h
    · rename_i v hv
      have e := stepR_low L hv
      exact ⟨0, v, H, by simp [stepA, e, hv], v, .inr rfl, h, (fun q hq => by injection hq with hq; subst hq; exact e), (fun q e => by cases e)⟩
    · cases h
  | l o =>
    simp only [opK, optK, optE, optL, fnK] at h
    split at h
    · rename_i x v hv
      exact ⟨0, v, H ++ [x], by simp [stepA, stepL_low L hv], v, .inr rfl, h, (fun q e => by cases e), (fun q e => ⟨x, rfl⟩)⟩
    · cases h
  | e o =>
    by_cases hc : (∃ f xs, o = .call f xs) ∨ ∃ g xs, o = .callv g xs
    · rcases hc with ⟨f, xs, rfl⟩ | ⟨g, xs, rfl⟩
      · obtain ⟨hk, v, H', ⟨n, hn⟩, hK⟩ := h
        rw [L.map hk] at hn
        exact ⟨n, v, H', hn, v, .inr rfl, hK, (fun q e => by cases e), (fun q e => by cases e)⟩
      · simp only [opK, optK, optE, optL, fnK] at h
        obtain ⟨hk, h⟩ := h
        split at h
        · rename_i f p c hg
          obtain ⟨v, H', ⟨n, hn⟩, hK⟩ := h
          rw [L.map hk] at hn
          have hg' : ρ' g = .fn f p c := by
            rcases L g with h | h
            · rw [h] at hg; cases hg
            · rw [← h]; exact hg
          exact ⟨n, v, H', by simp only [stepA, stepE, hg']; exact hn, v, .inr rfl, hK, (fun q e => by cases e), (fun q e => by cases e)⟩
        · cases h
    · have hk : ∃ v H', stepE (fun _ _ _ => none) ρ H o = some (v, H') ∧ K v H' := by
        cases o with
        | call f xs => exact absurd (.inl ⟨f, xs, rfl⟩) hc
        | callv g xs => exact absurd (.inr ⟨g, xs, rfl⟩) hc
        | _ =>
          simp only [opK, optK, optE, optL, fnK] at h
          split at h
          · rename_i v H' hv; exact ⟨v, H', hv, h⟩
          · cases h
      obtain ⟨v, H', hv, hk⟩ := hk
      have := stepE_low L (fun f xs e => hc (.inl ⟨f, xs, e⟩)) (fun g xs e => hc (.inr ⟨g, xs, e⟩)) hv
      exact ⟨0, v, H', stepE_mono (fun f xs H r q => by cases q) this, v, .inr rfl, hk, (fun q e => by cases e), (fun q e => by cases e)⟩
def okOps (N : Nat) (os : List AO) : Bool := os.all fun o => dstLt N o.dst
theorem opsK_run : ∀ {os : List AO} {A : Sl} {sl : List V} {H : Heap} {K : SS → Prop}, okOps sl.length os = true → Low A sl → opsK T os (A, H) K → ∃ n sl' H', runOps (callN T n) os (sl, H) = some (sl', H') ∧ sl'.length = sl.length ∧ ∃ A', Low A' sl' ∧ K (A', H')
  | [], A, sl, H, K, _, L, h => ⟨0, sl, H, rfl, rfl, A, L, h⟩
  | o :: r, A, sl, H, K, hok, L, h => by
    simp only [okOps, List.all_cons, Bool.and_eq_true] at hok
    simp only [opsK, guardK] at h
    split at h
    · rename_i hw
      obtain ⟨n, v', H', h1, v, h2, h3, -, -⟩ := opK_step L.ev h
      obtain ⟨m, sl', H'', k1, k2, A', k3, k4⟩ := opsK_run (by rw [putD_len]; exact hok.2) (put_low L hok.1 h2) h3
      refine ⟨n + m, sl', H'', ?_, by rw [k2, putD_len], A', k3, k4⟩
      simp only [runOps, Option.bind_eq_some_iff]
      exact ⟨_, by unfold stepAO; rw [wants_low L hw]; simp only [stepA_mono (callN_mono T (Nat.le_add_right n m)) h1, Option.map_some], runOps_mono (callN_mono T (Nat.le_add_left m n)) k1⟩
    · rename_i hw
      obtain ⟨m, sl', H'', k1, k2, A', k3, k4⟩ := opsK_run (by rw [putD_len]; exact hok.2) (put_low L hok.1 (.inr rfl)) h
      refine ⟨m, sl', H'', ?_, by rw [k2, putD_len], A', k3, k4⟩
      simp only [runOps, Option.bind_eq_some_iff]
      exact ⟨_, by unfold stepAO; rw [wants_low L hw], k1⟩
    · cases h
inductive PLe : List Pend → List Pend → Prop where
  | nil : PLe [] []
  | cons {p q : Pend} {a b : List Pend} : (p.2 = q.2 ∧ ∀ H, p.1 H = true → q.1 H = true) → PLe a b → PLe (p :: a) (q :: b)
theorem PLe.again {a b : List Pend} (h : PLe a b) {H : Heap} (e : again a H = true) : again b H = true := by
  induction h with
  | nil => rfl
  | cons h _ ih =>
    simp only [AM.again, List.all_cons, Bool.and_eq_true, Bool.or_eq_true] at e ⊢
    exact ⟨e.1.imp (fun k => by rw [← h.1]; exact k) (h.2 H), ih e.2⟩
theorem PLe.lower {a b : List Pend} (h : PLe a b) : PLe (lower a) (lower b) := by
  induction h with
  | nil => exact .nil
  | cons h _ ih => exact .cons ⟨by simp only [h.1], h.2⟩ ih
theorem PLe.append {a b c d : List Pend} (h : PLe a b) (k : PLe c d) : PLe (a ++ c) (b ++ d) := by
  induction h with
  | nil => exact k
  | cons h _ ih => exact .cons h ih
theorem drawK_run : ∀ {os : List AO} {ps qs : List Pend} {A : Sl} {sl : List V} {H : Heap} {K : SS → Prop}, okOps sl.length os = true → PLe ps qs → Low A sl → drawK T os ps (A, H) K → ∃ n sl' H', runDraw (callN T n) os qs (sl, H) = some (sl', H') ∧ sl'.length = sl.length ∧ ∃ A', Low A' sl' ∧ K (A', H')
  | [], ps, qs, A, sl, H, K, _, _, L, h => ⟨0, sl, H, rfl, rfl, A, L, h⟩
  | o :: r, ps, qs, A, sl, H, K, hok, hp, L, h => by
    simp only [okOps, List.all_cons, Bool.and_eq_true] at hok
    have go : ∀ (n : Nat) (s1 : List V) (A1 : Sl) (H1 : Heap), stepAO (callN T n) o (sl, H) = some (s1, H1) → s1.length = sl.length → Low A1 s1 → PLe (pendS o (A, H) (A1, H1)) (newPend o (sl, H) (s1, H1)) →
        nextK o (A, H) ps (fun ps' st' => drawK T r ps' st' K) (A1, H1) → ∃ n sl' H', runDraw (callN T n) (o :: r) qs (sl, H) = some (sl', H') ∧ sl'.length = sl.length ∧ ∃ A', Low A' sl' ∧ K (A', H') := by
      intro n s1 A1 H1 hs hl L1 hpe hn
      unfold nextK at hn
      split at hn
      · rename_i hE
        obtain ⟨ha, hd⟩ := hn
        obtain ⟨m, sl', H', k1, k2, A', k3, k4⟩ := drawK_run (by rw [hl]; exact hok.2) hp.lower L1 hd
        refine ⟨n + m, sl', H', ?_, by rw [k2, hl], A', k3, k4⟩
        simp only [runDraw, Option.bind_eq_some_iff]
        exact ⟨_, stepAO_mono (callN_mono T (Nat.le_add_right n m)) hs, by rw [if_pos hE, if_pos (hp.again ha)]; exact runDraw_mono (callN_mono T (Nat.le_add_left m n)) k1⟩
      · rename_i hE
        obtain ⟨m, sl', H', k1, k2, A', k3, k4⟩ := drawK_run (by rw [hl]; exact hok.2) (hpe.append hp) L1 hn
        refine ⟨n + m, sl', H', ?_, by rw [k2, hl], A', k3, k4⟩
        simp only [runDraw, Option.bind_eq_some_iff]
        exact ⟨_, stepAO_mono (callN_mono T (Nat.le_add_right n m)) hs, by rw [if_neg hE]; exact runDraw_mono (callN_mono T (Nat.le_add_left m n)) k1⟩
    simp only [drawK, guardK] at h
    split at h
    · rename_i hw
      obtain ⟨n, v', H', h1, v, h2, h3, h4, h5⟩ := opK_step L.ev h
      refine go n _ _ H' (by unfold stepAO; rw [wants_low L hw]; simp only [h1, Option.map_some]) (putD_len _ _ _) (put_low L hok.1 h2) ?_ h3
      unfold pendS newPend
      split
      · exact .nil
      · simp only [wants_low L hw, hw]
        cases hop : o.op with
        | r q => exact .cons ⟨rfl, fun H' e => by have e1 := h4 q hop; simp only [e1] at e ⊢; exact e⟩ .nil
        | l q => exact .cons ⟨rfl, fun H' e => e⟩ .nil
        | p q => exact .nil
        | e q => exact .nil
    · rename_i hw
      refine go 0 _ _ H (by unfold stepAO; rw [wants_low L hw]) (putD_len _ _ _) (put_low L hok.1 (.inr rfl)) ?_ h
      unfold pendS newPend
      split
      · exact .nil
      · simp only [wants_low L hw, hw]
        cases o.op <;> exact .nil
    · cases h
theorem keep_low {A : Sl} {sl : List V} (L : Low A sl) (ks : List Nat) : Low (keepS ks A) sl := by
  intro t
  have : get (keepS ks A) t = .undef ∨ get (keepS ks A) t = get A t := by
    unfold keepS
    induction ks with
    | nil => exact .inl rfl
    | cons k ks ih =>
      simp only [List.map_cons, get]
      by_cases e : k = t
      · subst e; simp
      · simp only [if_neg e]; exact ih
  rcases this with h | h
  · exact .inl h
  · rw [h]; exact L t
def okC (N : Nat) : AM.C → Bool
  | .reg os => okOps N os
  | .draw os => okOps N os
  | .seq a b => okC N a && okC N b
  | .cond _ a b => okC N a && okC N b
  | .block _ c => okC N c
  | .loop c => okC N c
  | _ => true
/-- Code, and what holds behind it; between the regions only the slots of ks are known. -/
def W (T : Nat → Option Fn) (ks : List Nat) (c : AM.C) (st : SS) (Q : X → SS → Prop) : Prop := ∀ sl, okC sl.length c = true → Low st.1 sl → ∃ n x sl' H', runC (callN T n) n c (sl, st.2) = some (x, (sl', H')) ∧ sl'.length = sl.length ∧ ∃ A', Low A' sl' ∧ Q x (A', H')
variable {ks : List Nat}
theorem runC_le {n m : Nat} (h : n ≤ m) {c : AM.C} {st : St} {r : X × St} (e : runC (callN T n) n c st = some r) : runC (callN T m) m c st = some r := runC_mono (callN_mono T h) h c e
theorem runC_le' {n m : Nat} (h : n ≤ m) {c : AM.C} {st : St} {r : X × St} (e : runC (callN T n) n c st = some r) : runC (callN T m) m c st = some r := runC_le h e
theorem W.mono {c : AM.C} {st : SS} {Q Q' : X → SS → Prop} (h : W T ks c st Q) (hq : ∀ x st', Q x st' → Q' x st') : W T ks c st Q' := fun sl ok L => by
  obtain ⟨n, x, sl', H', h1, h2, A', h3, h4⟩ := h sl ok L
  exact ⟨n, x, sl', H', h1, h2, A', h3, hq _ _ h4⟩
theorem W.skip {st : SS} {Q : X → SS → Prop} (h : Q .norm st) : W T ks .skip st Q := fun sl ok L => ⟨0, _, sl, _, rfl, rfl, _, L, h⟩
theorem W.exit {id : Nat} {st : SS} {Q : X → SS → Prop} (h : Q (.exit id) st) : W T ks (.exit id) st Q := fun sl ok L => ⟨0, _, sl, _, rfl, rfl, _, L, h⟩
theorem W.ret {st : SS} {Q : X → SS → Prop} (h : Q .ret st) : W T ks .ret st Q := fun sl ok L => ⟨0, _, sl, _, rfl, rfl, _, L, h⟩
theorem W.reg {ops : List AO} {st : SS} {Q : X → SS → Prop} (h : opsK T ops st fun st' => Q .norm (keepS ks st'.1, st'.2)) : W T ks (.reg ops) st Q := fun sl ok L => by
  obtain ⟨n, sl', H', h1, h2, A', h3, h4⟩ := opsK_run ok L h
  exact ⟨n, .norm, sl', H', by simp [runC, h1], h2, _, keep_low h3 ks, h4⟩
theorem W.draw {ops : List AO} {st : SS} {Q : X → SS → Prop} (h : drawK T ops [] st fun st' => Q .norm (keepS ks st'.1, st'.2)) : W T ks (.draw ops) st Q := fun sl ok L => by
  obtain ⟨n, sl', H', h1, h2, A', h3, h4⟩ := drawK_run ok .nil L h
  exact ⟨n, .norm, sl', H', by simp [runC, h1], h2, _, keep_low h3 ks, h4⟩
theorem W.regc {ops : List AO} {z : Opd} {a b : AM.C} {st : SS} {Q : X → SS → Prop} (h : opsK T ops st fun st' => ∃ t, evS st'.1 z = .bool t ∧ (t = true → W T ks a (keepS ks st'.1, st'.2) Q) ∧ (t = false → W T ks b (keepS ks st'.1, st'.2) Q)) : W T ks (.seq (.reg ops) (.cond z a b)) st Q := fun sl ok L => by
  simp only [okC, Bool.and_eq_true] at ok
  obtain ⟨n, s1, H1, h1, hl, A1, L1, t, ht, h2, h3⟩ := opsK_run ok.1 L h
  have hz : ev s1 z = .bool t := by
    rcases L1.ev z with h | h
    · rw [h] at ht; cases ht
    · rw [← h]; exact ht
  cases t with
  | true =>
    obtain ⟨m, x, s2, H2, k1, k2, A2, L2, k4⟩ := h2 rfl s1 (by rw [hl]; exact ok.2.1) (keep_low L1 ks)
    exact ⟨n + m, x, s2, H2, by simp only [runC, runOps_mono (callN_mono T (Nat.le_add_right n m)) h1, Option.map_some, hz]; exact runC_le' (Nat.le_add_left m n) k1, by rw [k2, hl], A2, L2, k4⟩
  | false =>
    obtain ⟨m, x, s2, H2, k1, k2, A2, L2, k4⟩ := h3 rfl s1 (by rw [hl]; exact ok.2.2) (keep_low L1 ks)
    exact ⟨n + m, x, s2, H2, by simp only [runC, runOps_mono (callN_mono T (Nat.le_add_right n m)) h1, Option.map_some, hz]; exact runC_le' (Nat.le_add_left m n) k1, by rw [k2, hl], A2, L2, k4⟩
theorem W.drawc {ops : List AO} {z : Opd} {a b : AM.C} {st : SS} {Q : X → SS → Prop} (h : drawK T ops [] st fun st' => ∃ t, evS st'.1 z = .bool t ∧ (t = true → W T ks a (keepS ks st'.1, st'.2) Q) ∧ (t = false → W T ks b (keepS ks st'.1, st'.2) Q)) : W T ks (.seq (.draw ops) (.cond z a b)) st Q := fun sl ok L => by
  simp only [okC, Bool.and_eq_true] at ok
  obtain ⟨n, s1, H1, h1, hl, A1, L1, t, ht, h2, h3⟩ := drawK_run ok.1 .nil L h
  have hz : ev s1 z = .bool t := by
    rcases L1.ev z with h | h
    · rw [h] at ht; cases ht
    · rw [← h]; exact ht
  cases t with
  | true =>
    obtain ⟨m, x, s2, H2, k1, k2, A2, L2, k4⟩ := h2 rfl s1 (by rw [hl]; exact ok.2.1) (keep_low L1 ks)
    exact ⟨n + m, x, s2, H2, by simp only [runC, runDraw_mono (callN_mono T (Nat.le_add_right n m)) h1, Option.map_some, hz]; exact runC_le' (Nat.le_add_left m n) k1, by rw [k2, hl], A2, L2, k4⟩
  | false =>
    obtain ⟨m, x, s2, H2, k1, k2, A2, L2, k4⟩ := h3 rfl s1 (by rw [hl]; exact ok.2.2) (keep_low L1 ks)
    exact ⟨n + m, x, s2, H2, by simp only [runC, runDraw_mono (callN_mono T (Nat.le_add_right n m)) h1, Option.map_some, hz]; exact runC_le' (Nat.le_add_left m n) k1, by rw [k2, hl], A2, L2, k4⟩
theorem W.drop (ks' : List Nat) {c : AM.C} {A : Sl} {H : Heap} {Q : X → SS → Prop} (h : W T ks c (keepS ks' A, H) Q) : W T ks c (A, H) Q := fun sl ok L => h sl ok (keep_low L ks')
theorem W.seq {a b : AM.C} {st : SS} {Q : X → SS → Prop} (h : W T ks a st fun x st' => match x with | .norm => W T ks b st' Q | .exit j => Q (.exit j) st' | .ret => Q .ret st') : W T ks (.seq a b) st Q := fun sl ok L => by
  simp only [okC, Bool.and_eq_true] at ok
  obtain ⟨n, x, s1, H1, h1, hl, A1, L1, h2⟩ := h sl ok.1 L
  cases x with
  | norm =>
    obtain ⟨m, y, s2, H2, k1, k2, A2, L2, k4⟩ := h2 s1 (by rw [hl]; exact ok.2) L1
    exact ⟨n + m, y, s2, H2, by simp only [runC, runC_le (Nat.le_add_right n m) h1, runC_le (Nat.le_add_left m n) k1], by rw [k2, hl], A2, L2, k4⟩
  | exit j => exact ⟨n, _, s1, H1, by simp only [runC, h1], hl, A1, L1, h2⟩
  | ret => exact ⟨n, _, s1, H1, by simp only [runC, h1], hl, A1, L1, h2⟩
theorem W.cond {z : Opd} {a b : AM.C} {st : SS} {Q : X → SS → Prop} (h : ∃ t, evS st.1 z = .bool t ∧ (t = true → W T ks a st Q) ∧ (t = false → W T ks b st Q)) : W T ks (.cond z a b) st Q := fun sl ok L => by
  simp only [okC, Bool.and_eq_true] at ok
  obtain ⟨t, ht, h1, h2⟩ := h
  have hz : ev sl z = .bool t := by
    rcases L.ev z with h | h
    · rw [h] at ht; cases ht
    · rw [← h]; exact ht
  cases t with
  | true => obtain ⟨n, x, s1, H1, k1, k2⟩ := h1 rfl sl ok.1 L; exact ⟨n, x, s1, H1, by simp only [runC, hz, k1], k2⟩
  | false => obtain ⟨n, x, s1, H1, k1, k2⟩ := h2 rfl sl ok.2 L; exact ⟨n, x, s1, H1, by simp only [runC, hz, k1], k2⟩
theorem W.block {id : Nat} {c : AM.C} {st : SS} {Q : X → SS → Prop} (h : W T ks c st fun x st' => match x with | .exit j => if j = id then Q .norm st' else Q (.exit j) st' | .norm => Q .norm st' | .ret => Q .ret st') : W T ks (.block id c) st Q := fun sl ok L => by
  obtain ⟨n, x, s1, H1, k1, k2, A1, L1, k4⟩ := h sl ok L
  cases x with
  | norm => exact ⟨n, _, s1, H1, by simp only [runC, k1], k2, A1, L1, k4⟩
  | ret => exact ⟨n, _, s1, H1, by simp only [runC, k1], k2, A1, L1, k4⟩
  | exit j =>
    by_cases hj : j = id
    · exact ⟨n, .norm, s1, H1, by simp only [runC, k1, if_pos hj], k2, A1, L1, by simpa [hj] using k4⟩
    · exact ⟨n, .exit j, s1, H1, by simp only [runC, k1, if_neg hj], k2, A1, L1, by simpa [hj] using k4⟩
theorem W.loop {c : AM.C} {Q : X → SS → Prop} (I : Nat → SS → Prop) {m : Nat} {st : SS} (h0 : I m st) (h : ∀ m st, I m st → W T ks c st fun x st' => match x with | .norm => ∃ k, k < m ∧ I k st' | .exit j => Q (.exit j) st' | .ret => Q .ret st') : W T ks (.loop c) st Q := by
  have key : ∀ m, ∀ st, I m st → ∀ sl, okC sl.length c = true → Low st.1 sl → ∃ n x sl' H', iter n (runC (callN T n) n c) (sl, st.2) = some (x, (sl', H')) ∧ sl'.length = sl.length ∧ ∃ A', Low A' sl' ∧ Q x (A', H') := by
    intro m
    induction m using Nat.strongRecOn with
    | _ m ih =>
      intro st hi sl ok L
      obtain ⟨n, x, s1, H1, k1, k2, A1, L1, k4⟩ := h m st hi sl ok L
      cases x with
      | norm =>
        obtain ⟨k, hk, hik⟩ := k4
        obtain ⟨n', y, s2, H2, q1, q2, q3⟩ := ih k hk _ hik s1 (by rw [k2]; exact ok) L1
        refine ⟨n + n' + 1, y, s2, H2, ?_, by rw [q2, k2], q3⟩
        simp only [iter, runC_le (show n ≤ n + n' + 1 by omega) k1]
        exact iter_mono (fun st r e => runC_le (show n' ≤ n + n' + 1 by omega) e) (by omega) q1
      | exit j => exact ⟨n + 1, _, s1, H1, by simp only [iter, runC_le (Nat.le_succ n) k1], k2, A1, L1, k4⟩
      | ret => exact ⟨n + 1, _, s1, H1, by simp only [iter, runC_le (Nat.le_succ n) k1], k2, A1, L1, k4⟩
  intro sl ok L
  obtain ⟨n, x, sl', H', h1, h2⟩ := key m st h0 sl ok L
  exact ⟨n, x, sl', H', h1, h2⟩
def argS : Nat → List V → Sl
  | _, [] => []
  | i, v :: r => (i, v) :: argS (i + 1) r
def resS1 (st : SS) : Res → Option V
  | .t i => if (get st.1 i).known then some (get st.1 i) else none
  | .cell i sh => stepR (evS st.1) st.2 (.load sh (.t i))
def resS (rs : List Res) (st : SS) : Option V := (rs.mapM (resS1 st)).map oneOr
theorem argS_get : ∀ (xs : List V) (k t : Nat), get (argS k xs) t = .undef ∨ (k ≤ t ∧ xs[t - k]? = some (get (argS k xs) t))
  | [], k, t => .inl rfl
  | v :: r, k, t => by
    simp only [argS, get]
    by_cases e : k = t
    · subst e; simp
    · simp only [if_neg e]
      rcases argS_get r (k + 1) t with h | ⟨h1, h2⟩
      · exact .inl h
      · right
        refine ⟨by omega, ?_⟩
        rw [show t - k = (t - (k + 1)) + 1 by omega]
        simpa using h2
theorem arg_low (xs ys : List V) : Low (argS 0 xs) (xs ++ ys) := by
  intro t
  rcases argS_get xs 0 t with h | ⟨-, h⟩
  · exact .inl h
  · right
    have hlt := (List.getElem?_eq_some_iff.1 h).1
    simp only [Nat.sub_zero] at h hlt
    simp [List.getD, List.getElem?_append_left hlt, h]
theorem res_low {A : Sl} {sl : List V} {H : Heap} (L : Low A sl) : ∀ {rs : List Res} {vs : List V}, rs.mapM (resS1 (A, H)) = some vs → rs.mapM (resOne (sl, H)) = some vs
  | [], vs, h => h
  | r :: rs, vs, h => by
    simp only [List.mapM_cons, Option.bind_eq_bind, Option.bind_eq_some_iff, Option.pure_def, Option.some.injEq] at h ⊢
    obtain ⟨v, h1, vs', h2, rfl⟩ := h
    refine ⟨v, ?_, vs', res_low L h2, rfl⟩
    cases r with
    | t i =>
      simp only [resS1] at h1
      split at h1
      · rename_i hk
        injection h1 with h1
        simp only [resOne, Option.some.injEq]
        rcases L i with h | h
        · rw [h] at hk; cases hk
        · rw [← h]; exact h1
      · cases h1
    | cell i sh =>
      simp only [resS1] at h1
      simp only [resOne]
      rw [stepR_low L.ev h1]; exact h1
theorem resS_low {A : Sl} {sl : List V} {H : Heap} (L : Low A sl) {rs : List Res} {u : V} (h : resS rs (A, H) = some u) : resV rs (sl, H) = some u := by
  simp only [resS, Option.map_eq_some_iff] at h
  obtain ⟨vs, h1, rfl⟩ := h
  simp only [resV, res_low L h1, Option.map_some]
/-- A function's body shows its answer. -/
theorem Ans.code (ks : List Nat) {f : Nat} {fn : AF} (ht : T f = some (.code fn)) {xs : List V} {H : Heap} {v : V} {H' : Heap} (hn : xs.length = fn.np) (hp : fn.pure = false) (hok : okC (fn.np + (fn.nt - fn.np)) fn.body = true)
    (h : W T ks fn.body (argS 0 xs, H) fun x st => (x = .norm ∨ x = .ret) ∧ resS fn.res st = some v ∧ st.2 = H') : Ans T f xs H v H' := by
  obtain ⟨n, x, sl', H1, h1, -, A', L', h2, h3, h4⟩ := h (xs ++ List.replicate (fn.nt - fn.np) (.tup [])) (by simpa [hn] using hok) (arg_low _ _)
  refine ⟨n + 1, ?_⟩
  simp only [callN, ht, callFn, if_pos hn, hp, Bool.false_eq_true, if_false]
  unfold runF
  simp only at h4
  subst h4
  rcases h2 with rfl | rfl
  · simp only [h1, resS_low L' h3, Option.map_some]
  · simp only [h1, resS_low L' h3, Option.map_some]
theorem Ans.pure (ks : List Nat) {f : Nat} {fn : AF} (ht : T f = some (.code fn)) {xs ds : List V} {H : Heap} {v : V} {H' : Heap} (hn : xs.length = fn.np) (hp : fn.pure = true) (hok : okC (fn.np + (fn.nt - fn.np)) fn.body = true) (hm : ¬ ((fn.rm = .froz ∨ fn.rm = .own) ∧ ¬ xs.all V.data = true)) (hd : xs.mapM (deep H 8) = some ds)
    (h : W T ks fn.body (argS 0 ds, []) fun x st => (x = .norm ∨ x = .ret) ∧ ∃ u, resS fn.res st = some u ∧ fin fn.rm u st.2 H = some (v, H')) : Ans T f xs H v H' := by
  obtain ⟨n, x, sl', H1, h1, -, A', L', h2, u, h3, h4⟩ := h (ds ++ List.replicate (fn.nt - fn.np) (.tup [])) (by simpa [mapM_len hd, hn] using hok) (arg_low _ _)
  refine ⟨n + 1, ?_⟩
  simp only [callN, ht, callFn, if_pos hn, hp, if_true, if_neg hm, hd, Option.bind_some]
  unfold runF
  simp only at h4
  rcases h2 with rfl | rfl
  · simp only [h1, resS_low L' h3, Option.map_some, Option.bind_some, h4]
  · simp only [h1, resS_low L' h3, Option.map_some, Option.bind_some, h4]
end
end Go.AM

/- The world grows; what a library's function gives that leaves the machine's memory as it is. -/
set_option linter.unusedVariables false
set_option linter.unusedSimpArgs false
namespace Go.AM
open Go.Sort
theorem grow_get {w : World} {os : Array Obj} {b : Nat} (h : b < w.heap.size) : (grow w os).heap[b]? = w.heap[b]? := by
  show (w.heap ++ os)[b]? = _
  exact Array.getElem?_append_left h
theorem heap_of {w : World} {b : Nat} {x : Obj} (h : w.heap[b]? = some x) : b < w.heap.size := (Array.getElem?_eq_some_iff.1 h).1
theorem grow_size {w : World} {os : Array Obj} : w.heap.size ≤ (grow w os).heap.size := by
  show w.heap.size ≤ (w.heap ++ os).size
  simp
theorem inv_more {μ : Mu} {S : Nat → Prop} {H : Heap} {w : World} (I : Inv μ S H w) (os : Array Obj) : Inv μ S H (grow w os) ∧ Ext μ S H w μ S H (grow w os) := by
  have sh : ∀ (b : Nat) (c : Array Value) (e : TypeId) (fz : Nat × Nat), w.heap[b]? = some (.cells c e fz) → ∃ (c' : Array Value) (fz' : Nat × Nat), (grow w os).heap[b]? = some (.cells c' e fz') ∧ c'.size = c.size := fun b c e fz h => ⟨c, _, (grow_get (heap_of h)).trans h, rfl⟩
  have mono : ∀ v x, VRel μ S w v x → VRel μ S (grow w os) v x := fun v x h => h.mono (fun _ _ h => h) (fun _ h => h) (fun b hb => grow_get (I.sdom b hb)) sh
  refine ⟨⟨fun i b o' h => ⟨(I.dom i b o' h).1, Nat.lt_of_lt_of_le (I.dom i b o' h).2 grow_size⟩, fun b hb => Nat.lt_of_lt_of_le (I.sdom b hb) grow_size, fun i x b o' hx hl hm => (I.obj i x b o' hx hl hm).imp mono (grow_get (I.dom i b o' hm).2), I.inj, I.sep, I.laid.imp (fun _ h => h) fun b hb => grow_get (I.sdom b hb)⟩,
    ⟨fun _ _ h => h, fun _ h => h, fun _ h => .inl h, Nat.le_refl _, rfl, rfl, rfl, grow_size, fun b hb _ => grow_get hb, sh, fun _ _ h => h, fun _ _ h h' => by rw [h] at h'; cases h'⟩⟩
/-- A table of numbers that is laid. -/
theorem tab_of {P : Program} {S : Nat → Prop} {w : World} (L : LaidOK S w) {name : String} {g : Nat} {k : IntKind} {zs : List Int} (hg : P.globalNamed name = some g) (hl : laidCells g = some (zs.map fun z => V.int k z)) : Lib.TabIs P w name k zs := by
  obtain ⟨h1, c, e, fz, h2, h3, h4⟩ := L g _ hl
  unfold Lib.TabIs World.var?
  rw [hg]
  simp only [Option.bind_some, h2]
  congr 1
  apply Array.ext_getElem?
  intro i
  by_cases hi : i < zs.length
  · obtain ⟨x, h5, h6⟩ := h4 i (.int k zs[i]) (by rw [List.getElem?_map, List.getElem?_eq_getElem hi]; rfl)
    injection h5 with h5
    rw [h6, ← h5]
    simp [hi]
  · rw [Array.getElem?_eq_none (by rw [h3, List.length_map]; omega), Array.getElem?_eq_none (by simp; omega)]
/-- And so a row pays for it. -/
theorem laid_of {P : Program} {S : Nat → Prop} {w : World} {name : String} {g : Nat} {k : IntKind} {zs : List Int} (hS : S g) (hg : P.globalNamed name = some g) (ht : Lib.TabIs P w name k zs) (hl : ∀ g' cs, laidCells g' = some cs → g' = g ∧ cs = zs.map fun z => V.int k z) : LaidOK S w := fun g' cs h => by
  obtain ⟨rfl, rfl⟩ := hl g' cs h
  unfold Lib.TabIs World.var? at ht
  rw [hg] at ht
  simp only [Option.bind_some] at ht
  refine ⟨hS, ?_⟩
  split at ht
  · rename_i cs e fz hh
    injection ht with ht
    refine ⟨cs, e, fz, hh, by rw [ht]; simp, fun j v hj => ?_⟩
    rw [List.getElem?_map] at hj
    obtain ⟨z, hz, rfl⟩ := Option.map_eq_some_iff.1 hj
    exact ⟨.int k z, rfl, by rw [ht]; simp [hz]⟩
  · cases ht
end Go.AM

/- A function from elsewhere that reads its arguments and gives plain values. -/
set_option linter.unusedVariables false
set_option linter.unusedSimpArgs false
namespace Go.AM
open Go.RowKit
theorem inv_below {μ : Mu} {S : Nat → Prop} {H : Heap} {w w' : World} (I : Inv μ S H w) (h : Below w.heap.size w w') : Inv μ S H w' ∧ Ext μ S H w μ S H w' := by
  obtain ⟨h1, h2, h3, h4, h5⟩ := h
  have get : ∀ {b : Nat}, b < w.heap.size → w'.heap[b]? = w.heap[b]? := fun hb => h5 _ hb
  have sh : ∀ (b : Nat) (c : Array Value) (e : TypeId) (fz : Nat × Nat), w.heap[b]? = some (.cells c e fz) → ∃ (c' : Array Value) (fz' : Nat × Nat), w'.heap[b]? = some (.cells c' e fz') ∧ c'.size = c.size := fun b c e fz h => ⟨c, _, (get (heap_of h)).trans h, rfl⟩
  have mono : ∀ v x, VRel μ S w v x → VRel μ S w' v x := fun v x h => h.mono (fun _ _ h => h) (fun _ h => h) (fun b hb => get (I.sdom b hb)) sh
  refine ⟨⟨fun i b o' h => ⟨(I.dom i b o' h).1, Nat.lt_of_lt_of_le (I.dom i b o' h).2 h4⟩, fun b hb => Nat.lt_of_lt_of_le (I.sdom b hb) h4, fun i x b o' hx hl hm => (I.obj i x b o' hx hl hm).imp mono (get (I.dom i b o' hm).2), I.inj, I.sep, I.laid.imp (fun _ h => h) fun b hb => get (I.sdom b hb)⟩,
    ⟨fun _ _ h => h, fun _ h => h, fun _ h => .inl h, Nat.le_refl _, h1, h2, h3, h4, fun b hb _ => get hb, sh, fun _ _ h => h, fun _ _ h h' => by rw [h] at h'; cases h'⟩⟩
def gPr (g : List V → Option V) (args : List V) (H : Heap) : Option (V × Heap) := (args.mapM (deep H 8)).bind fun ds => (g ds).map (·, H)
theorem gPr_ok {P : Program} {f : Nat} {g : List V → Option V} (hres : ∀ ds v, g ds = some v → v.cellsT.all V.flat1 = true)
    (hw : ∀ ds v, g ds = some v → ∀ (S2 : Nat → Prop) (w : World) (cargs : Array Value), (∀ b, S2 b → b < w.heap.size) → VRels (fun _ => none) S2 w ds cargs.toList → Calls P f cargs w fun e w' => ∃ cv, e = .returned cv ∧ VRel (fun _ => none) S2 w v cv ∧ Below w.heap.size w w') :
    ∀ args H v H', gPr g args H = some (v, H') → H.length ≤ H'.length ∧ ∀ (μ : Mu) (S : Nat → Prop) (w : World) (cargs : Array Value), Inv μ S H w → VRels μ S w args cargs.toList →
      Calls P f cargs w fun e w' => ∃ cv μ' S', e = .returned cv ∧ VRel μ' S' w' v cv ∧ Inv μ' S' H' w' ∧ Ext μ S H w μ' S' H' w' := by
  intro args H v H' h
  simp only [gPr, Option.bind_eq_some_iff, Option.map_eq_some_iff, Prod.mk.injEq] at h
  obtain ⟨ds, hd, v', hg, rfl, rfl⟩ := h
  refine ⟨Nat.le_refl _, fun μ S w cargs I hx => ?_⟩
  have hargs : VRels (fun _ => none) (fun b => S b ∨ Own μ H b) w ds cargs.toList := deeps_sound (deep_sound I (fun _ h => .inl h) (fun _ h => .inr h) 8) hd hx
  have hdom : ∀ b, (S b ∨ Own μ H b) → b < w.heap.size := fun b h => h.elim (I.sdom b) fun ⟨id, x, o, _, _, q⟩ => (I.dom id b o q).2
  refine Calls.mono (hw ds v' hg _ w cargs hdom hargs) ?_
  rintro e w' ⟨cv, rfl, hr, hb⟩
  obtain ⟨i, x⟩ := inv_below I hb
  exact ⟨cv, μ, S, rfl, flat_rel hr (hres ds v' hg), i, x⟩
end Go.AM

/- An object under a new name; an object whose end turns its block. -/
set_option linter.unusedVariables false
set_option linter.unusedSimpArgs false
namespace Go.AM
open Go.RowKit
section
variable {P : Program} {μ : Mu} {S : Nat → Prop} {H : Heap} {w : World}
theorem Inv.hnone (I : Inv μ S H w) : μ H.length = none := by
  cases h : μ H.length with
  | none => rfl
  | some p => have := (I.dom _ p.1 p.2 h).1; omega
theorem Inv.renamed (I : Inv μ S H w) {id : Nat} {x : O} {b o : Nat} (hx : H[id]? = some x) (lx : live x = true) (hm : μ id = some (b, o)) :
    ∃ μ', Inv μ' S (H.set id .dead ++ [x]) w ∧ Ext μ S H w μ' S (H.set id .dead ++ [x]) w ∧ μ' H.length = some (b, o) := by
  have hlt : id < H.length := (List.getElem?_eq_some_iff.1 hx).1
  have hnew := I.hnone
  let μ' : Mu := fun i => if i = H.length then some (b, o) else μ i
  have mu_of : ∀ i p, μ i = some p → μ' i = some p := by
    intro i p h
    simp only [μ']
    rw [if_neg]
    · exact h
    · intro e; subst e; rw [hnew] at h; cases h
  have mu_inv : ∀ i p, μ' i = some p → (i = H.length ∧ p = (b, o)) ∨ (i ≠ H.length ∧ μ i = some p) := by
    intro i p h
    simp only [μ'] at h
    split at h
    · injection h with h; exact .inl ⟨by assumption, h.symm⟩
    · exact .inr ⟨by assumption, h⟩
  have mono : ∀ v x, VRel μ S w v x → VRel μ' S w v x := fun v x h => h.mono mu_of (fun _ h => h) (fun _ _ => rfl) (fun _ c _ _ h => ⟨c, _, h, rfl⟩)
  have hl : (H.set id .dead).length = H.length := by simp
  have getold : ∀ (i : Nat) (y : O), (H.set id .dead ++ [x])[i]? = some y → live y = true → i ≠ H.length → H[i]? = some y ∧ i ≠ id := by
    intro i y h hly hi
    have hi2 : i < H.length := by
      have := (List.getElem?_eq_some_iff.1 h).1
      simp at this
      omega
    rw [List.getElem?_append_left (by omega)] at h
    by_cases e : i = id
    · subst e
      rw [List.getElem?_set_self hlt] at h
      injection h with h
      subst h
      cases hly
    · exact ⟨by rwa [List.getElem?_set_ne (Ne.symm e)] at h, e⟩
  have getnew : ∀ (y : O), (H.set id .dead ++ [x])[H.length]? = some y → y = x := by
    intro y h
    rw [List.getElem?_append_right (by omega), hl] at h
    simp at h
    exact h.symm
  refine ⟨μ', ⟨fun i k o' h => ?_, I.sdom, fun i y k o' hy hly hmi => ?_, fun i j y z k o1 o2 h1 h2 l1 l2 m1 m2 => ?_, fun i y k o' hy hly hmi => ?_, I.laid⟩,
    ⟨mu_of, fun _ h => h, fun _ h => .inl h, by simp, rfl, rfl, rfl, Nat.le_refl _, fun _ _ _ => rfl, fun _ c _ _ h => ⟨c, _, h, rfl⟩, fun k hk ⟨i, y, o', hy, hly, hmi⟩ => ?_, fun i p h h' => ?_⟩, by simp [μ']⟩
  · rcases mu_inv i _ h with ⟨rfl, e⟩ | ⟨-, h⟩
    · injection e with e1 e2
      subst e1
      exact ⟨by simp, (I.dom id k o hm).2⟩
    · have := I.dom i k o' h
      exact ⟨by simp; omega, this.2⟩
  · rcases mu_inv i _ hmi with ⟨rfl, e⟩ | ⟨hne, hmi⟩
    · rw [getnew y hy]
      injection e with e1 e2
      subst e1; subst e2
      exact (I.obj id x k o' hx lx hm).imp mono rfl
    · exact (I.obj i y k o' (getold i y hy hly hne).1 hly hmi).imp mono rfl
  · rcases mu_inv i _ m1 with ⟨rfl, e⟩ | ⟨n1, k1⟩ <;> rcases mu_inv j _ m2 with ⟨rfl, e'⟩ | ⟨n2, k2⟩
    · rfl
    · injection e with e1 e2
      subst e1
      have := getold j z h2 l2 n2
      exact absurd (I.inj j id z x k o2 o this.1 hx l2 lx k2 hm) this.2
    · injection e' with e1 e2
      subst e1
      have := getold i y h1 l1 n1
      exact absurd (I.inj i id y x k o1 o this.1 hx l1 lx k1 hm) this.2
    · exact I.inj i j y z k o1 o2 (getold i y h1 l1 n1).1 (getold j z h2 l2 n2).1 l1 l2 k1 k2
  · rcases mu_inv i _ hmi with ⟨rfl, e⟩ | ⟨hne, hmi⟩
    · injection e with e1 e2
      subst e1
      exact I.sep id x k o hx lx hm
    · exact I.sep i y k o' (getold i y hy hly hne).1 hly hmi
  · rcases mu_inv i _ hmi with ⟨rfl, e⟩ | ⟨hne, hmi⟩
    · injection e with e1 e2
      subst e1
      exact ⟨id, x, o, hx, lx, hm⟩
    · exact ⟨i, y, o', (getold i y hy hly hne).1, hly, hmi⟩
  · rcases mu_inv i _ h' with ⟨rfl, -⟩ | ⟨-, h'⟩
    · exact Nat.le_refl _
    · rw [h] at h'; cases h'
/-- An object's end; its block is turned. -/
theorem Inv.bury (I : Inv μ S H w) {id : Nat} {x : O} {b o : Nat} (hx : H[id]? = some x) (lx : live x = true) (hm : μ id = some (b, o)) {w' : World} (hsz : w'.heap.size = w.heap.size)
    (hos : w'.os = w.os) (htp : w'.tape = w.tape) (hou : w'.output = w.output) (hk : ∀ k, k ≠ b → w'.heap[k]? = w.heap[k]?)
    (hsh : ∀ (c : Array Value) (e : TypeId) (fz : Nat × Nat), w.heap[b]? = some (.cells c e fz) → ∃ (c' : Array Value) (fz' : Nat × Nat), w'.heap[b]? = some (.cells c' e fz') ∧ c'.size = c.size) : Inv μ S (H.set id .dead) w' ∧ Ext μ S H w μ S (H.set id .dead) w' := by
  have nS : ¬ S b := I.sep id x b o hx lx hm
  have mono : ∀ v y, VRel μ S w v y → VRel μ S w' v y := fun v y h => h.mono (fun _ _ h => h) (fun _ h => h) (fun k hk' => hk k fun e => nS (e ▸ hk')) fun k c e fz h => by
    by_cases hkb : k = b
    · subst hkb; exact hsh c e fz h
    · exact ⟨c, _, (hk k hkb).trans h, rfl⟩
  have hlt : id < H.length := (List.getElem?_eq_some_iff.1 hx).1
  have old : ∀ (i : Nat) (y : O), (H.set id .dead)[i]? = some y → live y = true → H[i]? = some y ∧ i ≠ id := by
    intro i y h hl
    by_cases e : i = id
    · subst e
      rw [List.getElem?_set_self hlt] at h
      injection h with h
      subst h
      cases hl
    · exact ⟨by rwa [List.getElem?_set_ne (Ne.symm e)] at h, e⟩
  refine ⟨⟨fun i k o' h => by have := I.dom i k o' h; simpa [hsz] using this, fun k hk' => by rw [hsz]; exact I.sdom k hk', fun i y k o' hy hl hmi => ?_, fun i j y z k o1 o2 h1 h2 l1 l2 m1 m2 => I.inj i j y z k o1 o2 (old i y h1 l1).1 (old j z h2 l2).1 l1 l2 m1 m2, fun i y k o' hy hl hmi => I.sep i y k o' (old i y hy hl).1 hl hmi, I.laid.imp (fun _ h => h) fun k hk' => hk k fun e => nS (e ▸ hk')⟩,
    fun _ _ h => h, fun _ h => h, fun _ h => .inl h, by simp, hos, htp, hou, by omega, fun k _ hn => hk k fun e => hn ⟨id, x, o, hx, lx, e ▸ hm⟩, fun k c e fz h => ?_, fun k _ ⟨i, y, o', hy, hl, hmi⟩ => ⟨i, y, o', (old i y hy hl).1, hl, hmi⟩, fun i p h h' => by rw [h] at h'; cases h'⟩
  · obtain ⟨hy', hne'⟩ := old i y hy hl
    have hne : k ≠ b := fun hkb => hne' (I.inj i id y x b o' o hy' hx hl lx (hkb ▸ hmi) hm)
    exact (I.obj i y k o' hy' hl hmi).imp mono (hk k hne)
  · by_cases hkb : k = b
    · subst hkb; exact hsh c e fz h
    · exact ⟨c, _, (hk k hkb).trans h, rfl⟩
end
theorem get_trow {μ : Mu} {S : Nat → Prop} {w : World} {t : Nat} {ex : Bool} {cs : List V} {b o : Nat} (h : ORel μ S w (.trow t ex cs) b o) : o = 0 ∧ ∃ (c : Array Value) (f : Nat → Value), w.heap[b]? = some (.cells c t (0, 0)) ∧ (ex = true → c.size = cs.length) ∧ cs.length ≤ c.size ∧ (∀ (j : Nat) (v : V), cs[j]? = some v → v.sc = true ∧ c[j]? = some (f j)) ∧ (∀ (j : Nat) (v : V), cs[j]? = some v → VRel μ S w v (f j)) := by
  cases h with
  | trow _ _ _ _ c f h1 h2 h3 h4 h5 => exact ⟨rfl, c, f, h1, h2, h3, h4, h5⟩
end Go.AM

/- Typed rows that are written. -/
set_option linter.unusedVariables false
set_option linter.unusedSimpArgs false
namespace Go.AM
open Go.RowKit
section
variable {μ : Mu} {S : Nat → Prop} {H : Heap} {w : World}
theorem trow_mk {t : Nat} {ex : Bool} {cs : List V} {b : Nat} {c : Array Value} (hb : w.heap[b]? = some (.cells c t (0, 0))) (hex : ex = true → c.size = cs.length) (hl : cs.length ≤ c.size)
    (hr : ∀ (j : Nat) (v : V), cs[j]? = some v → v.sc = true ∧ ∃ x, c[j]? = some x ∧ VRel μ S w v x) : ORel μ S w (.trow t ex cs) b 0 :=
  .trow t ex cs b c (fun j => c.getD j undef) hb hex hl (fun j v hj => by
    obtain ⟨h1, x, h2, h3⟩ := hr j v hj
    exact ⟨h1, by simp [Array.getD_eq_getD_getElem?, h2]⟩) (fun j v hj => by
    obtain ⟨h1, x, h2, h3⟩ := hr j v hj
    simpa [Array.getD_eq_getD_getElem?, h2] using h3)
theorem setRow_size (w : World) (g : Nat) (cs : Array Value) : (w.setRow g cs).heap.size = w.heap.size := by simp [World.setRow]
theorem trow_set (I : Inv μ S H w) {id : Nat} {t : Nat} {ex : Bool} {cs cs' : List V} {b o : Nat} (hx : H[id]? = some (.trow t ex cs)) (hm : μ id = some (b, o)) {c c' : Array Value} (hb : w.heap[b]? = some (.cells c t (0, 0)))
    (hsz : c'.size = c.size) (hex : ex = true → c'.size = cs'.length) (hl : cs'.length ≤ c'.size) (hr : ∀ (j : Nat) (v : V), cs'[j]? = some v → v.sc = true ∧ ∃ x, c'[j]? = some x ∧ VRel μ S w v x) :
    Inv μ S (H.set id (.trow t ex cs')) (w.setRow b c') ∧ Ext μ S H w μ S (H.set id (.trow t ex cs')) (w.setRow b c') := by
  obtain ⟨rfl, -⟩ := get_trow (I.obj id _ b o hx rfl hm)
  refine I.put hx rfl rfl hm (setRow_size _ _ _) rfl rfl rfl (fun k hk => setRow_other w b k _ hk) (fun c1 e fz h => ?_) (fun mono => ?_)
  · rw [hb] at h
    injection h with h; injection h with h1 h2 h3
    subst h1; subst h2; subst h3
    exact ⟨c', _, setRow_heap w b _ c' _ _ hb, hsz⟩
  · exact trow_mk (setRow_heap w b _ c' _ _ hb) hex hl fun j v hj => by
      obtain ⟨h1, x, h2, h3⟩ := hr j v hj
      exact ⟨h1, x, h2, mono _ _ h3⟩
theorem set_app {α : Type} {l : List α} {x y : α} {i : Nat} (h : i < l.length) : (l ++ [x]).set i y = l.set i y ++ [x] := by
  rw [List.set_append_left _ _ h]
end
end Go.AM

