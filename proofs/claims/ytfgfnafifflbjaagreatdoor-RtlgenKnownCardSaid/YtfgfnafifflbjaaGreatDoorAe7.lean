/-
  A part of the proof that the evaluator is sound: what it finds, the machine does, whatever the tape; conditions as each theorem names them.
-/
import Derived.Test.YtfgfnafifflbjaaGreatDoorAe6
namespace Go.AE
open Go

section
variable {P : Program} {b : Frame} {a : Act} {k : List Item} {cs : List Frame} {w w1 w2 : World}

/-- a range over a function begins: its function is called -/
theorem stepR_rangeFunc {f : Operand} {params : Array Tmp} {assign body : Code} {l : Nat} {mark : List Deferred} (h1 : (Instr.enterLoop b.fn a.tmps params assign body b.roundOf).run P w = .ok (l, mark) w1) {g : FuncId} {args : Array Value}
    (h2 : (do let d ← resolve a.eval { callee := .value f, args := #[.const (.func (.yield l) #[] #[])], argTypes := #[] } 0; invoke d.target d.args : Sem Next).run P w1 = .ok (.enter g args) w2) :
    step P (lone (b.atR a (.code (.rangeFunc f params assign body) :: k)) cs w) = .next (lone (Frame.enter P g args .normal) (b.atR { a with defers := mark ++ a.defers } (.inRangeFunc l :: k) :: cs) w2) := by
  refine step_lone_go ?_
  have he : (b.atR { a with defers := mark ++ a.defers } (.inRangeFunc l :: k)).eval = a.eval := Frame.eval_atR _ _ _
  simp only [Frame.atR] at he
  simp [stepG, stepG.exec, Frame.atR, Sem.runT_eq, h1, stepG.apply, he, h2]
theorem stepR_endRange {l : Nat} {jump : Option Code} (h : (Instr.endLoop l).run P w = .ok jump w1) :
    step P (lone (b.atR a (.endRangeFunc l :: k)) cs w) = .next (lone (b.atR a ((jump.map Item.code).toList ++ k)) cs w1) :=
  step_lone_go (by simp [stepG, stepG.exec, Frame.atR, Sem.runT_eq, h])
theorem finish_range {l : Nat} {v : Value} : (b.atR a (.inRangeFunc l :: k)).finish v = b.atR a (.endRangeFunc l :: k) := rfl
end
end Go.AE
namespace Go.AE
open Go

section
variable {P : Program}

theorem EnvR.any {β : Be} {m : Nat} {e : Env} {tmps : Array Value} (h : EnvR β m .nil e tmps) : EnvR β m .nil e tmps := h

/-- where a loop's deferred calls go -/
def EntOk (P : Program) (fi : FI) (s : St) (dblk : Pos) (s1 : St) : Prop :=
  s.nx.toNat ≤ s1.nx.toNat ∧ ∀ β b a md cs0 w, StR P fi s β b a md cs0 w → Free β s.nx s1.nx →
    ∃ β1 mark r y w1, (match b.roundOf with
        | some l => (do pure ((← Instr.getLoop l).defers, ([] : List Deferred)))
        | none => (do let r ← Go.newObj (.deferred (some [])); pure (r, [({ target := .collected r, args := #[] } : Deferred)])) : Sem (Nat × List Deferred)).run P w = .ok (r, mark) w1 ∧
      β1 dblk = some (r, y) ∧ StR P fi s1 β1 b { a with defers := mark ++ a.defers } md cs0 w1 ∧ Fr β (hof s.σ) w s.nx β1 (hof s1.σ) w1 s1.nx

theorem loopDefers_spec {fi : FI} {env : Env} {dfs : List DF} {u : U} {σ : Heap} {nx : Pos} {go : Pos → List DF → U → Heap → Pos → Prop} (h : loopDefers fi (.mk dfs u σ nx) go) :
    ∃ dblk dfs1 σ1 nx1, go dblk dfs1 u σ1 nx1 ∧ EntOk P fi ⟨.nil, env, dfs, u, σ, nx⟩ dblk ⟨.nil, env, dfs1, u, σ1, nx1⟩ := by
  obtain ⟨fid, rnd⟩ := fi
  cases rnd with
  | none =>
    have h' : T.set nx σ (some .dfr) fun σ => go nx (.coll nx :: dfs) u σ nx.succ := h
    obtain ⟨σ1, h1, h2⟩ := set_spec h'
    refine ⟨nx, _, σ1, _, h1, by show nx.toNat ≤ nx.succ.toNat; rw [Pos.toNat_succ]; omega, fun β b a md cs0 w hs hf => ?_⟩
    have hnx : β nx = none := hf nx (Nat.le_refl _) (by show nx.toNat < nx.succ.toNat; rw [Pos.toNat_succ]; omega)
    have G := Grown.push w (.deferred (some []))
    have R := grown_rel (tot := 0) (o := .dfr) hs.rel G hnx (show _ = _ by simp)
    have F := grown_fr (β := β) (h := hof σ) G (id := nx) (tot := 0) (o := .dfr)
    have hle := bset_le (x := (w.heap.size, 0, 0)) hnx
    rw [← h2] at R F
    refine ⟨_, [{ target := .collected w.heap.size, args := #[] }], w.heap.size, (0, 0), _, ?_, bset_same, ⟨hs.fn, hs.rnd, hs.u.mono hle, hs.env.mono hle, hs.size, .coll nx w.heap.size (0, 0) _ _ bset_same (hs.dfs.mono hle), R⟩, F⟩
    rw [show b.roundOf = none from hs.rnd]
    rfl
  | some l =>
    have h' : withObj σ l fun o => (match o with | .loop lo => go lo.defers dfs u σ nx | _ => False) := h
    obtain ⟨o, ho, h1⟩ := withObj_spec h'
    rcases o with _ | _ | lo | _ | _ <;> (try exact h1.elim)
    refine ⟨lo.defers, dfs, σ, nx, h1, Nat.le_refl _, fun β b a md cs0 w hs hf => ?_⟩
    obtain ⟨bl, x, hb, hbl⟩ := hs.rnd
    obtain ⟨r, q1, _, _, _, _, _, _, _, _, _, y, q11⟩ := hs.rel.obj l _ _ ho hbl
    simp only at q1
    refine ⟨β, [], r.defers, y, w, ?_, q11, ?_, Fr.refl _ _ _ _⟩
    · rw [hb]; simp [Instr.getLoop, getObj, Sem.run, q1]
    · exact ⟨hs.fn, hs.rnd, hs.u, hs.env, hs.size, hs.dfs, hs.rel⟩
end
end Go.AE
namespace Go.AE
open Go

section
variable {P : Program}

/-- the end of a range over a function -/
theorem endLoop_sound {L : Lv} (hL : LvOk P L) {fi : FI} {l : Pos} {env : Env} {dfs : List DF} {u : U} {σ : Heap} {nx : Pos} {K : KX} (h : endLoopK L fi l env dfs u σ nx K) :
    ∃ e env' dfs' u' σ' nx', K e env' (.mk dfs' u' σ' nx') ∧ nx.toNat ≤ nx'.toNat ∧ ∀ β b a md cs0 w k bl x, β l = some (bl, x) → StR P fi ⟨.nil, env, dfs, u, σ, nx⟩ β b a md cs0 w → Free β nx nx' →
      ∃ β' a' md' w', ArrR P (lone (b.atR a (.endRangeFunc bl :: k)) (withMode md cs0) w) b k (withMode md' cs0) β' e a' w' ∧ StR P fi ⟨.nil, env', dfs', u', σ', nx'⟩ β' b a' md' cs0 w' ∧ Fr β (hof σ) w nx β' (hof σ') w' nx' := by
  obtain ⟨o, ho, h1⟩ := withObj_spec (show withObj σ l _ from h)
  rcases o with _ | _ | lo | _ | _ <;> (try exact h1.elim)
  have h2 : lo.state ≠ .busy ∧ T.set l σ (some (.loop { lo with state := .exhausted })) fun σ => (match lo.pending with | none => K .normal env (.mk dfs u σ nx) | some c => L.exec fi c env (.mk dfs u σ nx) K) := by
    cases hs : lo.state <;> simp only [hs] at h1 <;> first | exact ⟨by simp, h1⟩ | exact h1.elim
  obtain ⟨hne, h3⟩ := h2
  obtain ⟨σ1, h4, hσ1⟩ := set_spec h3
  -- the loop's end, in the machine
  have mach : ∀ β b a md cs0 w bl x, β l = some (bl, x) → StR P fi ⟨.nil, env, dfs, u, σ, nx⟩ β b a md cs0 w → ∃ w1, (Instr.endLoop bl).run P w = .ok lo.pending w1 ∧ StR P fi ⟨.nil, env, dfs, u, σ1, nx⟩ β b a md cs0 w1 ∧ Fr β (hof σ) w nx β (hof σ1) w1 nx := by
    intro β b a md cs0 w bl x hbl hs
    obtain ⟨r, y1, y2, y3, _, _, _, _, _, _, _, yset⟩ := loop_set hs.rel ho hbl
    obtain ⟨z1, z2, z3⟩ := yset .exhausted lo.pending
    have z3 := z3 nx
    have he2 : ({ lo with state := .exhausted, pending := lo.pending } : LoopObj) = { lo with state := .exhausted } := rfl
    rw [he2, ← hσ1] at z2 z3
    refine ⟨_, ?_, ⟨hs.fn, hs.rnd, hs.u, hs.env, hs.size, hs.dfs, z2⟩, z3⟩
    have hget : (getObj bl).run P w = .ok (.loop r) w := by simp [getObj, Sem.run, y1]
    have hr : (r.state == LoopState.busy) = false := by
      rw [← y2]; exact beq_false_of_ne hne
    rw [y3] at z1 ⊢
    have z1' : (setObj bl (.loop { r with state := .exhausted })).run P w = .ok () { w with heap := w.heap.setIfInBounds bl (.loop { r with state := .exhausted }) } := z1
    simp only [Instr.endLoop, Instr.getLoop, Sem.run_bind, hget, Result.andThen_ok, Sem.run_pure, hr]
    simp only [Bool.false_eq_true, if_false, Sem.run_pure, Sem.run_bind, Result.andThen_ok, z1']
  cases hp : lo.pending with
  | none =>
    rw [hp] at h4
    refine ⟨.normal, env, dfs, u, σ1, nx, h4, Nat.le_refl _, fun β b a md cs0 w k bl x hbl hs hf => ?_⟩
    obtain ⟨w1, m1, m2, m3⟩ := mach β b a md cs0 w bl x hbl hs
    rw [hp] at m1
    exact ⟨β, a, md, w1, .one (stepR_endRange m1), m2, m3⟩
  | some cd =>
    rw [hp] at h4
    obtain ⟨e, env', dfs', u', σ', nx', h5, h6, _⟩ := hL.exec fi cd env dfs u σ1 nx _ h4
    refine ⟨e, env', dfs', u', σ', nx', h5, h6.1, fun β b a md cs0 w k bl x hbl hs hf => ?_⟩
    obtain ⟨w1, m1, m2, m3⟩ := mach β b a md cs0 w bl x hbl hs
    rw [hp] at m1
    obtain ⟨β', a', md', w', q1, q2, q3⟩ := h6.2 β b a md cs0 w1 k m2 (hf.right m3)
    exact ⟨β', a', md', w', .of_steps (.one (stepR_endRange m1)) q1, q2, m3.trans q3⟩
end
end Go.AE
namespace Go.AE
open Go

section
variable {P : Program} {b : Frame} {a : Act} {k : List Item} {cs : List Frame} {w w1 w2 : World}

theorem stepR_rangeFuncV {f : Operand} {params : Array Tmp} {assign body : Code} {l : Nat} {mark : List Deferred} (h1 : (Instr.enterLoop b.fn a.tmps params assign body b.roundOf).run P w = .ok (l, mark) w1) {v : Value}
    (h2 : (do let d ← resolve a.eval { callee := .value f, args := #[.const (.func (.yield l) #[] #[])], argTypes := #[] } 0; invoke d.target d.args : Sem Next).run P w1 = .ok (.value v) w2) :
    step P (lone (b.atR a (.code (.rangeFunc f params assign body) :: k)) cs w) = .next (lone (b.atR { a with defers := mark ++ a.defers } (.endRangeFunc l :: k)) cs w2) := by
  refine step_lone_go ?_
  have he : (b.atR { a with defers := mark ++ a.defers } (.inRangeFunc l :: k)).eval = a.eval := Frame.eval_atR _ _ _
  simp only [Frame.atR] at he
  simp [stepG, stepG.exec, Frame.atR, Sem.runT_eq, h1, stepG.apply, he, h2, Frame.finish]

theorem enter_run {α : Type} {x : Sem α} {f : α → Sem (Nat × List Deferred)} {fn : FuncId} {tmps : Array Value} {params : Array Tmp} {assign body : Code} {rr : Nat} {mark : List Deferred}
    (h : (x >>= f).run P w = .ok (rr, mark) w1) :
    (x >>= fun r => f r >>= fun p => (match p with | (defers, mark) => (do pure (← Go.newObj (.loop { state := .ready, pending := none, fn, tmps, params, assign, body, defers }), mark) : Sem (Nat × List Deferred)))).run P w
      = .ok (w1.heap.size, mark) { w1 with heap := w1.heap.push (.loop { state := .ready, pending := none, fn, tmps, params, assign, body, defers := rr }) } := by
  rw [Sem.run_bind] at h ⊢
  cases hx : x.run P w <;> rw [hx] at h <;> simp only [Result.andThen] at h ⊢ <;> (try cases h)
  rw [Sem.run_bind, h]
  rfl

theorem range_ok : RangeOk P := by
  intro L hL fi f params assign body env dfs u σ nx K h
  obtain ⟨hp, h1⟩ := ite'_true (show ite' (params.toList.all fun t => Nat.blt t (ntmpsOf P fi.fid)) _ False from h)
  obtain ⟨fv, h2, hf⟩ := get_spec (maskOf P fi.fid) .nil env f h1
  obtain ⟨dblk, dfs1, σ1, l, h3, h4⟩ := loopDefers_spec (P := P) (env := env) h2
  obtain ⟨σ2, h5, hσ2⟩ := set_spec h3
  cases fv <;> (try exact h5.elim)
  rename_i fn first cap
  cases fn <;> (try exact h5.elim)
  rename_i g
  obtain ⟨r, u2, σ3, nx3, h6, h7⟩ := hL.call _ _ _ _ _ _ h5
  cases r with
  | pan ch => exact h6.elim
  | ret v =>
    obtain ⟨e, env', dfs', u', σ', nx', h8, h9, h10⟩ := endLoop_sound (P := P) hL h6
    have hls : l.succ.toNat = l.toNat + 1 := Pos.toNat_succ l
    have hle1 : nx.toNat ≤ l.toNat := h4.1
    have hle2 : l.succ.toNat ≤ nx3.toNat := h7.1
    refine ⟨e, env', dfs', u', σ', nx', h8, by show nx.toNat ≤ nx'.toNat; omega, fun β b a md cs0 w k hs hf0 => ?_⟩
    have hfree : Free β nx nx' := hf0
    obtain ⟨β1, mark, rr, y, w1, e1, e2, e3, e4⟩ := h4.2 β b a md cs0 w hs (hfree.left (by show l.toNat ≤ nx'.toNat; omega))
    have hfree1 : Free β1 l nx' := hfree.right e4
    have hl1 : β1 l = none := hfree1 l (Nat.le_refl _) (by omega)
    have hb1 := e4.mono (hfree.left (show l.toNat ≤ nx'.toNat by omega))
    -- the loop's object
    let lp : Loop := { state := .ready, pending := none, fn := b.fn, tmps := a.tmps, params, assign, body, defers := rr }
    have G := Grown.push w1 (.loop lp)
    have hle := bset_le (x := (w1.heap.size, 0, 0)) hl1
    have hob : ObjR (maskOf P) (ntmpsOf P) (bset β1 l (w1.heap.size, 0, 0)) (w1.heap.push (.loop lp)) w1.heap.size 0 0 (.loop { state := .ready, pending := none, fid := fi.fid, env, params := params.toList, assign, body, defers := dblk }) := by
      refine ⟨lp, by simp, rfl, rfl, e3.fn.symm, e3.env.mono hle, e3.size, rfl, ?_, rfl, rfl, y, hle _ _ e2⟩
      intro t ht
      have := List.all_eq_true.1 hp t ht
      simpa [blt_iff] using this
    have R2 := grown_rel e3.rel G hl1 hob
    have F2 := grown_fr (β := β1) (h := hof σ1) G (id := l) (tot := 0) (o := .loop { state := .ready, pending := none, fid := fi.fid, env, params := params.toList, assign, body, defers := dblk })
    rw [← hσ2] at R2 F2
    have hfree2 := hfree1.right F2
    have hent : (Instr.enterLoop b.fn a.tmps params assign body b.roundOf).run P w = .ok (w1.heap.size, mark) { w1 with heap := w1.heap.push (.loop lp) } := by
      revert e1
      unfold Instr.enterLoop
      cases b.roundOf with
      | none => intro e1; exact enter_run e1
      | some l0 => intro e1; exact enter_run e1
    -- the call
    obtain ⟨g', x', c', hg, hv, hx', hc'⟩ := (hf β a hs.rel.g0 (hs.env.opd f)).func_inv
    cases hg
    have hb2 : β.le (bset β1 l (w1.heap.size, 0, 0)) := fun id x h => hle _ _ (hb1 _ _ h)
    have hargs : VRs (bset β1 l (w1.heap.size, 0, 0)) (first ++ [.yld l] ++ cap) (x' ++ [.func (.yield w1.heap.size) #[] #[]] ++ c') :=
      ((hx'.mono hb2).append (.cons _ _ _ _ (.yld l w1.heap.size (0, 0) bset_same) .nil)).append (hc'.mono hb2)
    obtain ⟨β3, md3, w3, R3, U3, F3, hcase⟩ := h7.2 _ _ _ .normal none (b.atR { a with defers := mark ++ a.defers } (.inRangeFunc w1.heap.size :: k) :: withMode md cs0) hargs R2 ⟨rfl, rfl⟩ (hfree2.left h9)
    have hb3 := F3.mono (hfree2.left h9)
    have hinv : ∀ ww, (do let d ← resolve a.eval { callee := .value f, args := #[.const (.func (.yield w1.heap.size) #[] #[])], argTypes := #[] } 0; invoke d.target d.args : Sem Next).run P ww = (callFunc g ⟨x' ++ [.func (.yield w1.heap.size) #[] #[]] ++ c'⟩).run P ww := by
      intro ww
      have e1 : ((⟨x'⟩ : Array Value) ++ #[.func (.yield w1.heap.size) #[] #[]] ++ ⟨c'⟩ : Array Value) = ⟨x' ++ [.func (.yield w1.heap.size) #[] #[]] ++ c'⟩ := by apply Array.ext'; simp
      rw [← e1]
      simp only [resolve, hv, Deferred.ofValue]
      have e2 : Array.map a.eval #[Operand.const (Value.func (Fn.yield w1.heap.size) #[] #[])] = #[.func (.yield w1.heap.size) #[] #[]] := by simp [Act.eval]
      rw [e2]
      rfl
    have hs3 : StR P fi ⟨.nil, env, dfs1, u, σ3, nx3⟩ β3 b { a with defers := mark ++ a.defers } md cs0 w3 :=
      ⟨e3.fn, e3.rnd.mono (fun id x h => hb3 _ _ (hle _ _ h)), e3.u.mono (fun id x h => hb3 _ _ (hle _ _ h)), e3.env.mono (fun id x h => hb3 _ _ (hle _ _ h)), e3.size, e3.dfs.mono (fun id x h => hb3 _ _ (hle _ _ h)), R3⟩
    have F13 := (e4.trans F2).trans F3
    have hl3 : β3 l = some (w1.heap.size, 0, 0) := hb3 _ _ bset_same
    obtain ⟨β4, a4, md4, w4, q1, q2, q3⟩ := h10 β3 b { a with defers := mark ++ a.defers } md cs0 w3 k w1.heap.size (0, 0) hl3 hs3 (hfree.right F13)
    refine ⟨β4, a4, md4, w4, .of_steps ?_ q1, q2, F13.trans q3⟩
    rcases hcase with ⟨v0, v', hr, hvv, hrun, _⟩ | ⟨hrun, fr, hst, hend⟩
    · exact .one (stepR_rangeFuncV hent (by rw [hinv]; exact hrun))
    · have hmd : md3 = none := by
        cases u2 with
        | none => exact U3.2
        | some m => exact absurd U3.1 (by simp)
      subst hmd
      obtain ⟨z1, z2, z3, fn, z4, z5, v', hvv, z6⟩ := hend
      have st2 := step_leave_returned (c := b.atR { a with defers := mark ++ a.defers } (.inRangeFunc w1.heap.size :: k)) (cs := withMode md cs0) (⟨z5, z2, z3, fn, by rw [z1]; exact z4, z6⟩ : fr.leaving P w3 (.returned v'))
      rw [finish_range] at st2
      exact Steps.head (stepR_rangeFunc hent (by rw [hinv]; exact hrun)) (hst.trans (.one st2))
end
end Go.AE
namespace Go.AE
open Go

/-! ## a drawn region: what the text's order says of each operation -/
def res (β : Be) (lo hi : Nat) : Be := fun id => if lo ≤ id.toNat ∧ id.toNat < hi then none else β id
theorem res_some {β : Be} {lo hi : Nat} {id : Pos} {x : Nat × Nat × Nat} (h : res β lo hi id = some x) : ¬ (lo ≤ id.toNat ∧ id.toNat < hi) ∧ β id = some x := by
  unfold res at h
  by_cases hc : lo ≤ id.toNat ∧ id.toNat < hi
  · rw [if_pos hc] at h; cases h
  · rw [if_neg hc] at h; exact ⟨hc, h⟩
theorem res_eq {β : Be} {lo hi : Nat} {id : Pos} (h : ¬ (lo ≤ id.toNat ∧ id.toNat < hi)) : res β lo hi id = β id := if_neg h
theorem res_in {β : Be} {lo hi : Nat} {id : Pos} (h : lo ≤ id.toNat ∧ id.toNat < hi) : res β lo hi id = none := if_pos h
theorem res_le {β : Be} {lo lo' hi : Nat} (h : lo ≤ lo') : (res β lo hi).le (res β lo' hi) := by
  intro id x hx
  obtain ⟨h1, h2⟩ := res_some hx
  rw [res_eq (fun c => h1 ⟨Nat.le_trans h c.1, c.2⟩), h2]
theorem res_sub {β : Be} {lo hi : Nat} : (res β lo hi).le β := fun _ _ h => (res_some h).2
theorem res_empty {β : Be} {n : Nat} : res β n n = β := by
  funext id
  exact res_eq (by omega)

noncomputable def names (ops : Array Oper) (o : Oper) : List Operand := o.op.operands.toList ++ guardOps ops o
def NamR (β : Be) (m : Nat) (l : Loc) (e : Env) (a : Act) (ops : Array Oper) (o : Oper) : Prop := ∀ x ∈ names ops o, OpdR β m l e a x
theorem NamR.opds {β : Be} {m : Nat} {l : Loc} {e : Env} {a : Act} {ops : Array Oper} {o : Oper} (h : NamR β m l e a ops o) : OpdsR β m l e a o.op :=
  fun x hx => h x (by simp [names, hx])
theorem OpdR.mono {β β' : Be} (hb : β.le β') {m : Nat} {l : Loc} {e : Env} {a : Act} {x : Operand} (h : OpdR β m l e a x) : OpdR β' m l e a x :=
  fun t v h1 h2 => let ⟨v', h3, h4⟩ := h t v h1 h2; ⟨v', h3, h4.mono hb⟩

section
variable {P : Program} {fi : FI} {ops : Array Oper}

def Asked (P : Program) (fi : FI) (s : St) (ops : Array Oper) (o : Oper) (t : Bool) : Prop :=
  ∀ β (a : Act), G0 β → NamR β (maskOf P fi.fid) s.l s.e a ops o → Region.wanted o (yielded ops a.tmps) = t

/-- an effect of a drawn region -/
structure EffGo (P : Program) (fi : FI) (ops : Array Oper) (i : Nat) (o : Oper) (s : St) (v : AV) (s' : St) : Prop where
  le : s.nx.toNat ≤ s'.nx.toNat
  go : ∀ (rest : List Nat) (k : List Item) (β : Be) (b : Frame) (a : Act) (md : Option FrameMode) (cs0 : List Frame) (w : World), b.fn = fi.fid → RndR β fi.rnd b.roundOf → UR β s.u b.kind md cs0 → DfR β s.dfs a.defers → a.tmps.size = ntmpsOf P fi.fid → NamR β (maskOf P fi.fid) s.l s.e a ops o →
    Rel (maskOf P) (ntmpsOf P) β (hof s.σ) w → Free β s.nx s'.nx →
    ∃ β' v' dd md' w', Steps P (lone (b.atR a (.inRegion ops (i :: rest) :: k)) (withMode md cs0) w) (lone (b.atR (({ a with defers := dd } : Act).put o.dst v') (.inRegion ops rest :: k)) (withMode md' cs0) w') ∧
      VR β' v v' ∧ DfR β' s'.dfs dd ∧ UR β' s'.u b.kind md' cs0 ∧ Rel (maskOf P) (ntmpsOf P) β' (hof s'.σ) w' ∧ Fr β (hof s.σ) w s.nx β' (hof s'.σ) w' s'.nx

inductive Fact where
  | skip
  | rd (v : AV) (q : Option RQ)
  | read (v : AV)
  | alloc (v : AV) (ob : AObj)
  | eff (v : AV)
def Fact.val : Fact → AV
  | .skip => .tuple []
  | .rd v _ | .read v | .alloc v _ | .eff v => v
def Fact.isE : Fact → Bool
  | .eff _ => true
  | _ => false
/-- one ahead of the other, in no order between them -/
def kindOk : Fact → Fact → Bool
  | .read _, .eff _ | .eff _, .read _ | .eff _, .eff _ | .alloc .., .eff _ => false
  | _, _ => true

def RqId : RQ → Pos
  | .cells id .. => id
  | .look _ id .. => id
def RqLone : RQ → Prop
  | .cells .. => True
  | .look kk .. => kk ≠ 3
theorem FindH.congr {h h' : HO} {kk : Nat} (hk : kk ≠ 3) {k : AV} : ∀ {es : List (AV × AV)} {r : Option AV}, FindH h kk k es r → FindH h' kk k es r
  | [], _, h => h
  | e :: es, r, h => by
    obtain ⟨t, h1, h2⟩ := h
    refine ⟨t, ?_, ?_⟩
    · rcases h1 with h1 | ⟨h1, _⟩
      · exact .inl h1
      · exact absurd h1 hk
    · split
      · rename_i ht; rw [if_pos ht] at h2; exact h2
      · rename_i ht; rw [if_neg ht] at h2; exact FindH.congr hk h2
theorem RqH.congr {h h' : HO} {q : RQ} (hl : RqLone q) (he : h' (RqId q) = h (RqId q)) (hq : RqH h q) : RqH h' q := by
  cases q with
  | cells id off n cs =>
    obtain ⟨os, rd, lo, hi, anc, h1, h2⟩ := hq
    exact ⟨os, rd, lo, hi, anc, he.trans h1, h2⟩
  | look kk id k r =>
    obtain ⟨es, h1, h2⟩ := hq
    exact ⟨es, he.trans h1, FindH.congr hl h2⟩

def FactOk (P : Program) (fi : FI) (ops : Array Oper) (i : Nat) (o : Oper) (s s' : St) : Fact → Prop
  | .skip => Asked P fi s ops o false ∧ hof s'.σ = hof s.σ ∧ s'.nx = s.nx ∧ s'.dfs = s.dfs ∧ s'.u = s.u
  | .rd v q => Asked P fi s ops o true ∧ (∀ c, o.op ≠ .defer c) ∧ (∀ h, (∀ q', q = some q' → RqH h q') → ReadAt (maskOf P) (ntmpsOf P) P (maskOf P fi.fid) s.l s.e o h v) ∧
      (∀ q', q = some q' → RqLone q' ∧ RqH (hof s.σ) q') ∧ hof s'.σ = hof s.σ ∧ s'.nx = s.nx ∧ s'.dfs = s.dfs ∧ s'.u = s.u
  | .read v => Asked P fi s ops o true ∧ (∀ c, o.op ≠ .defer c) ∧ ReadAt (maskOf P) (ntmpsOf P) P (maskOf P fi.fid) s.l s.e o (hof s.σ) v ∧ hof s'.σ = hof s.σ ∧ s'.nx = s.nx ∧ s'.dfs = s.dfs ∧ s'.u = s.u
  | .alloc v ob => Asked P fi s ops o true ∧ (∀ c, o.op ≠ .defer c) ∧ AllocAt (maskOf P) (ntmpsOf P) P (maskOf P fi.fid) s.l s.e o s.nx v ob ∧ hof s'.σ = upd (hof s.σ) s.nx (some ob) ∧ s'.nx = s.nx.succ ∧ s'.dfs = s.dfs ∧ s'.u = s.u
  | .eff v => Asked P fi s ops o true ∧ EffGo P fi ops i o s v s'

/-- the text's order, as a whole -/
structure Tr (P : Program) (fi : FI) (ops : Array Oper) (st : Nat → St) (F : Nat → Fact) (bf : Nat → Nat → Prop) : Prop where
  fact : ∀ (i : Nat) (o : Oper), ops[i]? = some o → FactOk P fi ops i o (st i) (st (i + 1)) (F i)
  nxt : ∀ (i : Nat) (o : Oper), ops[i]? = some o → ∀ t, look (maskOf P fi.fid) (st (i + 1)).l (st (i + 1)).e t = if o.dst = some t then some (F i).val else look (maskOf P fi.fid) (st i).l (st i).e t
  dst : ∀ (i : Nat) (o : Oper), ops[i]? = some o → ∀ t, o.dst = some t → t < ntmpsOf P fi.fid
  pair : ∀ (i j : Nat) (oi oj : Oper), i < j → ops[i]? = some oi → ops[j]? = some oj → bf j i ∨
    ((∀ t, oi.dst = some t → Operand.tmp t ∉ names ops oj) ∧ (∀ t, oi.dst = some t → oj.dst ≠ some t) ∧ (∀ t, oj.dst = some t → Operand.tmp t ∉ names ops oi) ∧ kindOk (F i) (F j) = true)
  ld : ∀ (i e : Nat) (v : AV) (q : RQ) (w : AV), i < ops.size → e < ops.size → F i = .rd v (some q) → F e = .eff w → (e < i → ¬ bf i e → RqH (hof (st e).σ) q) ∧ (i < e → ¬ bf e i → RqH (hof (st (e + 1)).σ) q)

abbrev nxa (st : Nat → St) (k : Nat) : Nat := (st k).nx.toNat

section
variable {st : Nat → St} {F : Nat → Fact} {bf : Nat → Nat → Prop}

theorem getOp {i : Nat} (h : i < ops.size) : ∃ o, ops[i]? = some o := ⟨ops[i], by simp [h]⟩

theorem Tr.step_nx (T : Tr P fi ops st F bf) {i : Nat} (h : i < ops.size) : nxa st i ≤ nxa st (i + 1) := by
  obtain ⟨o, ho⟩ := getOp h
  have := T.fact i o ho
  unfold nxa
  cases hF : F i <;> rw [hF] at this
  · rw [this.2.2.1]; exact Nat.le_refl _
  · rw [this.2.2.2.2.2.1]; exact Nat.le_refl _
  · rw [this.2.2.2.2.1]; exact Nat.le_refl _
  · rw [this.2.2.2.2.1, Pos.toNat_succ]; omega
  · exact this.2.le
theorem Tr.nx_le (T : Tr P fi ops st F bf) : ∀ {i j : Nat}, i ≤ j → j ≤ ops.size → nxa st i ≤ nxa st j
  | i, 0, h, _ => by
    have : i = 0 := by omega
    subst this; exact Nat.le_refl _
  | i, j + 1, h, hj => by
    by_cases e : i = j + 1
    · subst e; exact Nat.le_refl _
    · exact Nat.le_trans (Tr.nx_le T (by omega) (by omega)) (T.step_nx (by omega))

/-- no effect in [b, k) -/
def NoE (F : Nat → Fact) (b k : Nat) : Prop := ∀ e, b ≤ e → e < k → (F e).isE = false

theorem Tr.stay (T : Tr P fi ops st F bf) {b : Nat} : ∀ {k : Nat}, b ≤ k → k ≤ ops.size → NoE F b k → ∀ id : Pos, ¬ (nxa st b ≤ id.toNat ∧ id.toNat < nxa st k) → hof (st k).σ id = hof (st b).σ id
  | 0, h, _, _, id, _ => by
    have : b = 0 := by omega
    subst this; rfl
  | k + 1, h, hk, hn, id, hid => by
    by_cases e : b = k + 1
    · subst e; rfl
    · have hm := T.step_nx (i := k) (by omega)
      have hb := T.nx_le (i := b) (j := k) (by omega) (by omega)
      have ih := Tr.stay T (b := b) (k := k) (by omega) (by omega) (fun e h1 h2 => hn e h1 (by omega)) id (fun c => hid ⟨c.1, by omega⟩)
      rw [← ih]
      obtain ⟨o, ho⟩ := getOp (ops := ops) (i := k) (by omega)
      have hf := T.fact k o ho
      have hne := hn k (by omega) (by omega)
      cases hF : F k <;> rw [hF] at hf hne
      · rw [hf.2.1]
      · rw [hf.2.2.2.2.1]
      · rw [hf.2.2.2.1]
      · rw [hf.2.2.2.1]
        have hs := hf.2.2.2.2.1
        have hne' : id ≠ (st k).nx := by
          intro c
          subst c
          refine hid ⟨hb, ?_⟩
          show (st k).nx.toNat < (st (k + 1)).nx.toNat
          rw [hs, Pos.toNat_succ]; omega
        simp [upd, hne']
      · cases hne

/-- an allocation is there until the next effect -/
theorem Tr.born (T : Tr P fi ops st F bf) {j k : Nat} {v : AV} {ob : AObj} (hF : F j = .alloc v ob) (hjk : j < k) (hk : k ≤ ops.size) (hn : NoE F (j + 1) k) : hof (st k).σ (st j).nx = some ob := by
  obtain ⟨o, ho⟩ := getOp (ops := ops) (i := j) (by omega)
  have hf := T.fact j o ho
  rw [hF] at hf
  have hs := hf.2.2.2.2.1
  rw [T.stay (b := j + 1) (by omega) hk hn (st j).nx, hf.2.2.2.1]
  · simp [upd]
  · intro c
    have := c.1
    unfold nxa at this
    rw [hs, Pos.toNat_succ] at this
    omega
theorem Tr.alloc_nx (T : Tr P fi ops st F bf) {j : Nat} {v : AV} {ob : AObj} (hF : F j = .alloc v ob) (hj : j < ops.size) : nxa st (j + 1) = nxa st j + 1 := by
  obtain ⟨o, ho⟩ := getOp (ops := ops) (i := j) hj
  have hf := T.fact j o ho
  rw [hF] at hf
  unfold nxa
  rw [hf.2.2.2.2.1, Pos.toNat_succ]

/-! ## what the temporaries hold when D are done -/
noncomputable def cur (ops : Array Oper) (m : Nat) (s0 : St) (F : Nat → Fact) (D : Nat → Bool) : Nat → Nat → Option AV × Nat := fun k t =>
  Nat.rec (motive := fun _ => Option AV × Nat) (look m s0.l s0.e t, 0) (fun k ih => if D k = true ∧ (ops[k]?).bind (·.dst) = some t then (some (F k).val, k + 1) else ih) k
end
end
end Go.AE
namespace Go.AE
open Go

section
variable {P : Program} {fi : FI} {ops : Array Oper} {st : Nat → St} {F : Nat → Fact} {bf : Nat → Nat → Prop}

theorem cur_zero {m : Nat} {s0 : St} {D : Nat → Bool} {t : Nat} : cur ops m s0 F D 0 t = (look m s0.l s0.e t, 0) := rfl
theorem cur_succ {m : Nat} {s0 : St} {D : Nat → Bool} {t k : Nat} : cur ops m s0 F D (k + 1) t = if D k = true ∧ (ops[k]?).bind (·.dst) = some t then (some (F k).val, k + 1) else cur ops m s0 F D k t := rfl
theorem cur_le {m : Nat} {s0 : St} {D : Nat → Bool} {t : Nat} : ∀ k, (cur ops m s0 F D k t).2 ≤ k
  | 0 => Nat.le_refl _
  | k + 1 => by
    rw [cur_succ]
    split
    · exact Nat.le_refl _
    · exact Nat.le_trans (cur_le k) (Nat.le_succ _)
theorem Tr.cur_look (T : Tr P fi ops st F bf) {t : Nat} : ∀ k, k ≤ ops.size → (cur ops (maskOf P fi.fid) (st 0) F (fun _ => true) k t).1 = look (maskOf P fi.fid) (st k).l (st k).e t
  | 0, _ => rfl
  | k + 1, hk => by
    obtain ⟨o, ho⟩ := getOp (ops := ops) (i := k) (by omega)
    rw [cur_succ, T.nxt k o ho t, ho]
    simp only [Option.bind_some, true_and]
    split
    · rfl
    · exact T.cur_look k (by omega)

def ClosedD (bf : Nat → Nat → Prop) (D : Nat → Bool) : Prop := ∀ j, D j = true → ∀ x, bf j x → D x = true
def setD (D : Nat → Bool) (i : Nat) : Nat → Bool := fun x => x == i || D x
theorem setD_same {D : Nat → Bool} {i : Nat} : setD D i i = true := by simp [setD]
theorem setD_ne {D : Nat → Bool} {i x : Nat} (h : x ≠ i) : setD D i x = D x := by simp [setD, h]
theorem setD_mono {D : Nat → Bool} {i x : Nat} (h : D x = true) : setD D i x = true := by simp [setD, h]

section
variable {D : Nat → Bool} {i : Nat} {o : Oper} {t : Nat}
theorem Tr.cur_before (T : Tr P fi ops st F bf) {m : Nat} {s0 : St} (ho : ops[i]? = some o) (hb : ∀ x, bf i x → D x = true) (ht : Operand.tmp t ∈ names ops o) :
    ∀ k, k ≤ i → cur ops m s0 F D k t = cur ops m s0 F (fun _ => true) k t
  | 0, _ => rfl
  | k + 1, hk => by
    rw [cur_succ, cur_succ, T.cur_before ho hb ht k (by omega)]
    by_cases hd : (ops[k]?).bind (·.dst) = some t
    · obtain ⟨ok, hok, hd'⟩ := Option.bind_eq_some_iff.1 hd
      have : D k = true := by
        rcases T.pair k i ok o (by omega) hok ho with h | h
        · exact hb k h
        · exact absurd ht (h.1 t hd')
      simp [this]
    · simp [hd]
theorem Tr.cur_after (T : Tr P fi ops st F bf) {m : Nat} {s0 : St} (ho : ops[i]? = some o) (hc : ClosedD bf D) (hi : D i = false) (ht : Operand.tmp t ∈ names ops o) :
    ∀ k, i ≤ k → cur ops m s0 F D k t = cur ops m s0 F D i t
  | 0, h => by
    have : i = 0 := by omega
    subst this; rfl
  | k + 1, hk => by
    by_cases e : i = k + 1
    · subst e; rfl
    · rw [cur_succ, T.cur_after ho hc hi ht k (by omega), if_neg]
      intro ⟨h1, hd⟩
      obtain ⟨ok, hok, hd'⟩ := Option.bind_eq_some_iff.1 hd
      by_cases e2 : k = i
      · subst e2; rw [hi] at h1; cases h1
      · rcases T.pair i k o ok (by omega) ho hok with h | h
        · have := hc k h1 i h; rw [hi] at this; cases this
        · exact h.2.2.1 t hd' ht
theorem cur_set_before {m : Nat} {s0 : St} : ∀ k, k ≤ i → cur ops m s0 F (setD D i) k t = cur ops m s0 F D k t
  | 0, _ => rfl
  | k + 1, hk => by rw [cur_succ, cur_succ, cur_set_before k (by omega), setD_ne (by omega)]
theorem Tr.cur_set (T : Tr P fi ops st F bf) {m : Nat} {s0 : St} (ho : ops[i]? = some o) (hc : ClosedD bf D) (hi : D i = false) :
    ∀ k, i < k → cur ops m s0 F (setD D i) k t = if o.dst = some t then (some (F i).val, i + 1) else cur ops m s0 F D k t
  | 0, h => by omega
  | k + 1, hk => by
    by_cases e : k = i
    · subst e
      rw [cur_succ, cur_succ, cur_set_before k (Nat.le_refl _), setD_same, hi, ho]
      simp
    · rw [cur_succ, cur_succ, T.cur_set ho hc hi k (by omega), setD_ne e]
      by_cases h1 : D k = true ∧ (ops[k]?).bind (·.dst) = some t
      · obtain ⟨ok, hok, hd'⟩ := Option.bind_eq_some_iff.1 h1.2
        have hne : ¬ o.dst = some t := by
          intro hd
          rcases T.pair i k o ok (by omega) ho hok with h | h
          · have := hc k h1.1 i h; rw [hi] at this; cases this
          · exact h.2.1 t hd hd'
        rw [if_pos h1, if_neg hne, if_pos h1]
      · rw [if_neg h1, if_neg h1]
end

/-! ## relations of the memory -/
theorem Rel.congr {mk nt : FuncId → Nat} {β : Be} {h h' : HO} {w : World} (R : Rel mk nt β h w) (he : ∀ id x, β id = some x → h' id = h id) : Rel mk nt β h' w :=
  ⟨R.g0, fun id o x ho hx => R.obj id o x (by rw [← he id x hx]; exact ho) hx,
   fun i j oi oj xi xj hne hi hj bi bj hb => R.sep i j oi oj xi xj hne (by rw [← he i xi bi]; exact hi) (by rw [← he j xj bj]; exact hj) bi bj hb⟩
theorem Rel.grow {mk nt : FuncId → Nat} {β : Be} {h : HO} {w w' : World} (R : Rel mk nt β h w) (G : Grown w w') : Rel mk nt β h w' :=
  ⟨R.g0, fun id o x ho hx => (R.obj id o x ho hx).heap (G.keep _ (R.obj id o x ho hx).lt), R.sep⟩
theorem res_mono {β β' : Be} (h : β.le β') {lo hi : Nat} : (res β lo hi).le (res β' lo hi) := by
  intro id x hx
  obtain ⟨h1, h2⟩ := res_some hx
  rw [res_eq h1]
  exact h _ _ h2
theorem Fr.within {β0 β β' : Be} {h0 h h' : HO} {w0 w w' : World} {nx nx' p q : Pos} (a : Fr β0 h0 w0 nx β h w nx') (b : Fr β h w p β' h' w' q) (hp : nx.toNat ≤ p.toNat) (hq : q.toNat ≤ nx'.toNat) : Fr β0 h0 w0 nx β' h' w' nx' := by
  have hs := a.size
  refine ⟨a.le, fun id hid => ?_, Nat.le_trans a.size b.size, fun k hk hc => ?_, fun k hk hc => a.cov k hk (b.cov k (by omega) hc), b.os.trans a.os, b.tape.trans a.tape, b.output.trans a.output⟩
  · rw [b.out id (by omega), a.out id hid]
  · rw [b.keep k (by omega) (fun h => hc (a.cov k hk h)), a.keep k hk hc]

structure Inv (P : Program) (fi : FI) (ops : Array Oper) (st : Nat → St) (F : Nat → Fact) (bf : Nat → Nat → Prop) (β0 : Be) (w0 : World) (b : Frame) (cs0 : List Frame)
    (D : Nat → Bool) (c0 : Nat) (β : Be) (H : HO) (a : Act) (md : Option FrameMode) (w : World) : Prop where
  c0le : c0 ≤ ops.size
  effD : ∀ e, e < ops.size → (F e).isE = true → (D e = true ↔ e < c0)
  allD : ∀ j v ob, j < c0 → F j = .alloc v ob → D j = true
  last : c0 = 0 ∨ ∃ e v, c0 = e + 1 ∧ F e = .eff v
  closed : ClosedD bf D
  h1 : ∀ id : Pos, ¬ (nxa st c0 ≤ id.toNat ∧ id.toNat < nxa st ops.size) → H id = hof (st c0).σ id
  h2 : ∀ j v ob, c0 ≤ j → j < ops.size → D j = true → F j = .alloc v ob → H (st j).nx = some ob
  h3 : ∀ (id : Pos) x, nxa st c0 ≤ id.toNat → id.toNat < nxa st ops.size → β id = some x → ∃ j v ob, c0 ≤ j ∧ j < ops.size ∧ D j = true ∧ F j = .alloc v ob ∧ (st j).nx = id
  apart : ∀ (id : Pos) x, nxa st c0 ≤ id.toNat → id.toNat < nxa st ops.size → β id = some x → ∀ id2 x2 o2, id2 ≠ id → H id2 = some o2 → β id2 = some x2 → x2.1 ≠ x.1
  rel : ∀ k, c0 ≤ k → k ≤ ops.size → Rel (maskOf P) (ntmpsOf P) (res β (nxa st k) (nxa st ops.size)) H w
  fn : b.fn = fi.fid
  rnd : RndR (res β (nxa st c0) (nxa st ops.size)) fi.rnd b.roundOf
  ur : UR (res β (nxa st c0) (nxa st ops.size)) (st c0).u b.kind md cs0
  dfs : DfR (res β (nxa st c0) (nxa st ops.size)) (st c0).dfs a.defers
  size : a.tmps.size = ntmpsOf P fi.fid
  env : ∀ t v, (cur ops (maskOf P fi.fid) (st 0) F D ops.size t).1 = some v → ∃ v', a.tmps[t]? = some v' ∧
    VR (res β (nxa st (max c0 (cur ops (maskOf P fi.fid) (st 0) F D ops.size t).2)) (nxa st ops.size)) v v'
  fr : Fr β0 (hof (st 0).σ) w0 (st 0).nx β H w (st ops.size).nx

section
variable {β0 : Be} {w0 : World} {b : Frame} {cs0 : List Frame} {D : Nat → Bool} {c0 : Nat} {β : Be} {H : HO} {a : Act} {md : Option FrameMode} {w : World} {i : Nat} {o : Oper}

theorem lt_size {i : Nat} {o : Oper} (ho : ops[i]? = some o) : i < ops.size := (Array.getElem?_eq_some_iff.1 ho).1

theorem alloc_lt (T : Tr P fi ops st F bf) {j k : Nat} {v : AV} {ob : AObj} (hF : F j = .alloc v ob) (hjk : j < k) (hk : k ≤ ops.size) : nxa st j < nxa st k := by
  have h1 := T.alloc_nx hF (by omega)
  have h2 := T.nx_le (i := j + 1) (j := k) (by omega) hk
  omega

theorem Inv.agree (I : Inv P fi ops st F bf β0 w0 b cs0 D c0 β H a md w) (T : Tr P fi ops st F bf) {k : Nat} (hk : c0 ≤ k) (hkn : k ≤ ops.size) (hn : NoE F c0 k) :
    ∀ id x, res β (nxa st k) (nxa st ops.size) id = some x → hof (st k).σ id = H id := by
  intro id x hx
  obtain ⟨h1, h2⟩ := res_some hx
  by_cases hc : nxa st c0 ≤ id.toNat ∧ id.toNat < nxa st ops.size
  · obtain ⟨j, v, ob, q1, q2, q3, q4, q5⟩ := I.h3 id x hc.1 hc.2 h2
    have hjk : j < k := by
      rcases Nat.lt_or_ge j k with h | h
      · exact h
      · have := T.nx_le h (Nat.le_of_lt q2)
        refine absurd ⟨?_, hc.2⟩ h1
        rw [← q5]; exact this
    have e1 := T.born q4 hjk hkn (fun e he1 he2 => hn e (by omega) he2)
    have e2 := I.h2 j v ob q1 q2 q3 q4
    rw [q5] at e1 e2
    rw [e1, e2]
  · rw [I.h1 id hc]
    refine T.stay hk hkn hn id fun c => hc ⟨c.1, ?_⟩
    exact Nat.lt_of_lt_of_le c.2 (T.nx_le hkn (Nat.le_refl _))
theorem Inv.text (I : Inv P fi ops st F bf β0 w0 b cs0 D c0 β H a md w) (T : Tr P fi ops st F bf) {k : Nat} (hk : c0 ≤ k) (hkn : k ≤ ops.size) (hn : NoE F c0 k) :
    Rel (maskOf P) (ntmpsOf P) (res β (nxa st k) (nxa st ops.size)) (hof (st k).σ) w :=
  (I.rel k hk hkn).congr (I.agree T hk hkn hn)

theorem Inv.nam (I : Inv P fi ops st F bf β0 w0 b cs0 D c0 β H a md w) (T : Tr P fi ops st F bf) (ho : ops[i]? = some o) (hi : D i = false) (hb : ∀ x, bf i x → D x = true) :
    NamR (res β (nxa st (max c0 i)) (nxa st ops.size)) (maskOf P fi.fid) (st i).l (st i).e a ops o := by
  intro x hx t v hxt hv
  subst hxt
  have hlt := lt_size ho
  have hcur : cur ops (maskOf P fi.fid) (st 0) F D ops.size t = cur ops (maskOf P fi.fid) (st 0) F (fun _ => true) i t := by
    rw [T.cur_after ho I.closed hi hx ops.size (by omega), T.cur_before ho hb hx i (Nat.le_refl _)]
  have h1 := I.env t v (by rw [hcur, T.cur_look i (by omega)]; exact hv)
  obtain ⟨v', q1, q2⟩ := h1
  refine ⟨v', q1, q2.mono (res_le (T.nx_le ?_ ?_))⟩
  · rw [hcur]
    have := cur_le (ops := ops) (m := maskOf P fi.fid) (s0 := st 0) (F := F) (D := fun _ => true) (t := t) i
    omega
  · have := I.c0le
    omega

/-- the temporaries behind one more -/
theorem Inv.env_put (I : Inv P fi ops st F bf β0 w0 b cs0 D c0 β H a md w) (T : Tr P fi ops st F bf) (ho : ops[i]? = some o) (hi : D i = false) {c1 : Nat} {β1 : Be} {v' : Value} (_ : c0 ≤ c1)
    (hm : ∀ p, p ≤ ops.size → (res β (nxa st (max c0 p)) (nxa st ops.size)).le (res β1 (nxa st (max c1 p)) (nxa st ops.size)))
    (hv : VR (res β1 (nxa st (max c1 (i + 1))) (nxa st ops.size)) (F i).val v') {dd : List Deferred} :
    ∀ t v, (cur ops (maskOf P fi.fid) (st 0) F (setD D i) ops.size t).1 = some v → ∃ v2, (({ a with defers := dd } : Act).put o.dst v').tmps[t]? = some v2 ∧
      VR (res β1 (nxa st (max c1 (cur ops (maskOf P fi.fid) (st 0) F (setD D i) ops.size t).2)) (nxa st ops.size)) v v2 := by
  intro t v h
  rw [T.cur_set ho I.closed hi ops.size (lt_size ho)] at h ⊢
  by_cases hd : o.dst = some t
  · rw [if_pos hd] at h ⊢
    simp only [Option.some.injEq] at h
    subst h
    refine ⟨v', ?_, hv⟩
    have hlt : t < a.tmps.size := by rw [I.size]; exact T.dst i o ho t hd
    rw [hd]
    simp [Act.put, hlt]
  · rw [if_neg hd] at h ⊢
    obtain ⟨v2, q1, q2⟩ := I.env t v h
    refine ⟨v2, ?_, q2.mono (hm _ (cur_le _))⟩
    cases hdd : o.dst with
    | none => exact q1
    | some t' =>
      rw [hdd] at hd
      have : t' ≠ t := fun h => hd (by rw [h])
      simp only [Act.put]
      rw [Array.getElem?_setIfInBounds, if_neg this]
      exact q1
end
end
end Go.AE
namespace Go.AE
open Go

section
variable {P : Program} {fi : FI} {ops : Array Oper} {st : Nat → St} {F : Nat → Fact} {bf : Nat → Nat → Prop}
variable {β0 : Be} {w0 : World} {b : Frame} {cs0 : List Frame} {D : Nat → Bool} {c0 : Nat} {β : Be} {H : HO} {a : Act} {md : Option FrameMode} {w : World} {i : Nat} {o : Oper}

theorem put_act (a : Act) : ({ a with defers := a.defers } : Act) = a := rfl

/-- one more that leaves the memory -/
theorem Inv.value (I : Inv P fi ops st F bf β0 w0 b cs0 D c0 β H a md w) (T : Tr P fi ops st F bf) (ho : ops[i]? = some o) (hi : D i = false) (hb : ∀ x, bf i x → D x = true) (hne : (F i).isE = false) (hna : ∀ v ob, F i ≠ .alloc v ob) {v' : Value}
    (hv : VR (res β (nxa st (max c0 (i + 1))) (nxa st ops.size)) (F i).val v') : Inv P fi ops st F bf β0 w0 b cs0 (setD D i) c0 β H (a.put o.dst v') md w := by
  refine { I with effD := ?_, allD := ?_, closed := ?_, h2 := ?_, h3 := ?_, dfs := ?_, size := ?_, env := ?_ }
  · intro e he hE
    have : e ≠ i := by intro h; subst h; rw [hne] at hE; cases hE
    rw [setD_ne this]; exact I.effD e he hE
  · intro j v ob hj hF; exact setD_mono (I.allD j v ob hj hF)
  · intro j hj x hx
    by_cases e : j = i
    · subst e; exact setD_mono (hb x hx)
    · rw [setD_ne e] at hj; exact setD_mono (I.closed j hj x hx)
  · intro j v ob h1 h2 h3 hF
    have : j ≠ i := by intro h; subst h; exact hna _ _ hF
    rw [setD_ne this] at h3
    exact I.h2 j v ob h1 h2 h3 hF
  · intro id x h1 h2 h3
    obtain ⟨j, v, ob, q1, q2, q3, q4⟩ := I.h3 id x h1 h2 h3
    exact ⟨j, v, ob, q1, q2, setD_mono q3, q4⟩
  · rw [put_defers]; exact I.dfs
  · rw [put_size]; exact I.size
  · exact I.env_put T ho hi (Nat.le_refl _) (fun p _ => fun _ _ h => h) hv (dd := a.defers)

/-- what an operation finds done -/
theorem Inv.after (I : Inv P fi ops st F bf β0 w0 b cs0 D c0 β H a md w) (T : Tr P fi ops st F bf) (ho : ops[i]? = some o) (hi : D i = false) (hE : ∀ v, kindOk (F i) (.eff v) = false) : c0 ≤ i := by
  rcases Nat.lt_or_ge i c0 with h | h
  · rcases I.last with h0 | ⟨e, v, h0, hF⟩
    · omega
    · have hlt : e < ops.size := by have := I.c0le; omega
      have hDe : D e = true := (I.effD e hlt (by rw [hF]; rfl)).2 (by omega)
      by_cases e2 : i = e
      · subst e2; rw [hi] at hDe; cases hDe
      · obtain ⟨oe, hoe⟩ := getOp hlt
        rcases T.pair i e o oe (by omega) ho hoe with h1 | h1
        · have := I.closed e hDe i h1; rw [hi] at this; cases this
        · have := h1.2.2.2; rw [hF, hE] at this; cases this
  · exact h
theorem Inv.noE (I : Inv P fi ops st F bf β0 w0 b cs0 D c0 β H a md w) (T : Tr P fi ops st F bf) (ho : ops[i]? = some o) (hb : ∀ x, bf i x → D x = true) (hE : ∀ v, kindOk (.eff v) (F i) = false) : NoE F c0 i := by
  intro e h1 h2
  cases hF : F e with
  | eff v =>
    have hlt : e < ops.size := by have := lt_size ho; omega
    obtain ⟨oe, hoe⟩ := getOp hlt
    rcases T.pair e i oe o h2 hoe ho with h3 | h3
    · have := (I.effD e hlt (by rw [hF]; rfl)).1 (hb e h3); omega
    · have := h3.2.2.2; rw [hF, hE] at this; cases this
  | _ => rfl

/-- one more that allocates -/
theorem Inv.alloc (I : Inv P fi ops st F bf β0 w0 b cs0 D c0 β H a md w) (T : Tr P fi ops st F bf) (ho : ops[i]? = some o) (hi : D i = false) (hb : ∀ x, bf i x → D x = true) {v : AV} {ob : AObj} (hF : F i = .alloc v ob) :
    ∃ β1 H1 v' w', (execOp a.eval o).run P w = .ok (.value v') w' ∧ Inv P fi ops st F bf β0 w0 b cs0 (setD D i) c0 β1 H1 (a.put o.dst v') md w' := by
  have hlt := lt_size ho
  have hfact := T.fact i o ho
  rw [hF] at hfact
  obtain ⟨_, _, hat, _, hnx, _, _⟩ := hfact
  have hci : c0 ≤ i := I.after T ho hi (by intro v; rw [hF]; rfl)
  have hmax : max c0 i = i := by omega
  have hnam := I.nam T ho hi hb
  rw [hmax] at hnam
  have hnxi := T.alloc_nx hF hlt
  have hN : nxa st i < nxa st ops.size := alloc_lt T hF hlt (Nat.le_refl _)
  have hc0 : nxa st c0 ≤ nxa st i := T.nx_le hci (by omega)
  -- the number is free
  have hnone : β (st i).nx = none := by
    cases hx : β (st i).nx with
    | none => rfl
    | some x =>
      obtain ⟨j, v2, ob2, q1, q2, q3, q4, q5⟩ := I.h3 (st i).nx x hc0 hN hx
      have hji : j = i := by
        have e5 : nxa st j = nxa st i := congrArg Pos.toNat q5
        rcases Nat.lt_trichotomy j i with h | h | h
        · have := alloc_lt T q4 h (by omega); omega
        · exact h
        · have := alloc_lt T hF h (by omega); omega
      subst hji
      rw [hi] at q3; cases q3
  have hin : nxa st i ≤ (st i).nx.toNat ∧ (st i).nx.toNat < nxa st ops.size := ⟨Nat.le_refl _, hN⟩
  obtain ⟨v', w', tot, hrun, G, hv, hob⟩ := hat (res β (nxa st i) (nxa st ops.size)) a w (I.rel i hci (by omega)).g0 hnam.opds (res_in hin)
  have hle := bset_le (x := (w.heap.size, 0, tot)) hnone
  -- from the restricted to the wider
  have hwide : ∀ k, i < k → k ≤ ops.size → (bset (res β (nxa st i) (nxa st ops.size)) (st i).nx (w.heap.size, 0, tot)).le (res (bset β (st i).nx (w.heap.size, 0, tot)) (nxa st k) (nxa st ops.size)) := by
    intro k hk hkn id x hx
    have hlk := alloc_lt T hF hk hkn
    by_cases e : id = (st i).nx
    · subst e
      rw [bset_same] at hx
      rw [res_eq (by intro c; have := c.1; unfold nxa at *; omega), bset_same, hx]
    · rw [bset_ne e] at hx
      obtain ⟨h1, h2⟩ := res_some hx
      rw [res_eq (fun c => h1 ⟨by omega, c.2⟩), bset_ne e, h2]
  refine ⟨bset β (st i).nx (w.heap.size, 0, tot), upd H (st i).nx (some ob), v', w', hrun, ?_⟩
  constructor
  · exact I.c0le
  · intro e he hE
    have : e ≠ i := by intro h; subst h; rw [hF] at hE; cases hE
    rw [setD_ne this]; exact I.effD e he hE
  · intro j v2 ob2 hj hF2; exact setD_mono (I.allD j v2 ob2 hj hF2)
  · exact I.last
  · intro j hj x hx
    by_cases e : j = i
    · subst e; exact setD_mono (hb x hx)
    · rw [setD_ne e] at hj; exact setD_mono (I.closed j hj x hx)
  · intro id hid
    have : id ≠ (st i).nx := by
      intro h; subst h; exact hid ⟨hc0, hN⟩
    rw [← I.h1 id hid]; simp [upd, this]
  · intro j v2 ob2 h1 h2 h3 hF2
    by_cases e : j = i
    · subst e
      rw [hF] at hF2
      cases hF2
      simp [upd]
    · rw [setD_ne e] at h3
      have hne : (st j).nx ≠ (st i).nx := by
        intro h
        have e5 : nxa st j = nxa st i := congrArg Pos.toNat h
        rcases Nat.lt_trichotomy j i with h | h | h
        · have := alloc_lt T hF2 h (by omega); omega
        · exact e h
        · have := alloc_lt T hF h (by omega); omega
      rw [← I.h2 j v2 ob2 h1 h2 h3 hF2]; simp [upd, hne]
  · intro id x h1 h2 h3
    by_cases e : id = (st i).nx
    · exact ⟨i, v, ob, hci, hlt, setD_same, hF, e.symm⟩
    · rw [bset_ne e] at h3
      obtain ⟨j, v2, ob2, q1, q2, q3, q4⟩ := I.h3 id x h1 h2 h3
      exact ⟨j, v2, ob2, q1, q2, setD_mono q3, q4⟩
  · intro id x h1 h2 h3 id2 x2 o2 hne hH2 hb2
    have hlt2 : ∀ (id : Pos) x o, H id = some o → β id = some x → x.1 < w.heap.size := fun id x o q1 q2 => by
      have := (I.rel ops.size I.c0le (Nat.le_refl _)).obj id o x q1 (by rw [res_empty]; exact q2)
      exact this.lt
    by_cases e : id = (st i).nx
    · subst e
      rw [bset_same] at h3
      simp only [Option.some.injEq] at h3
      subst h3
      rw [bset_ne hne] at hb2
      simp only [upd, hne, if_false] at hH2
      have := hlt2 id2 x2 o2 hH2 hb2
      simp only; omega
    · rw [bset_ne e] at h3
      by_cases e2 : id2 = (st i).nx
      · subst e2
        rw [bset_same] at hb2
        simp only [Option.some.injEq] at hb2
        subst hb2
        obtain ⟨j, v2, ob2, q1, q2, q3, q4, q5⟩ := I.h3 id x h1 h2 h3
        have e3 := I.h2 j v2 ob2 q1 q2 q3 q4
        rw [q5] at e3
        have := hlt2 id x ob2 e3 h3
        simp only; omega
      · rw [bset_ne e2] at hb2
        simp only [upd, e2, if_false] at hH2
        exact I.apart id x h1 h2 h3 id2 x2 o2 hne hH2 hb2
  · intro k hk hkn
    rcases Nat.lt_or_ge i k with h | h
    · have e1 : res (bset β (st i).nx (w.heap.size, 0, tot)) (nxa st k) (nxa st ops.size) = bset (res β (nxa st k) (nxa st ops.size)) (st i).nx (w.heap.size, 0, tot) := by
        have hlk := alloc_lt T hF h hkn
        funext id
        by_cases e : id = (st i).nx
        · subst e
          rw [bset_same, res_eq (by intro c; have := c.1; unfold nxa at *; omega), bset_same]
        · rw [bset_ne e]
          unfold res
          rw [bset_ne e]
      have hw := hwide k h hkn
      rw [e1] at hw ⊢
      refine grown_rel (I.rel k hk hkn) G ?_ (hob.mono hw)
      unfold res
      split
      · rfl
      · exact hnone
    · have hkk := T.nx_le h (by omega)
      have e1 : res (bset β (st i).nx (w.heap.size, 0, tot)) (nxa st k) (nxa st ops.size) = res β (nxa st k) (nxa st ops.size) := by
        funext id
        by_cases e : id = (st i).nx
        · subst e
          rw [res_in ⟨hkk, hN⟩, res_in ⟨hkk, hN⟩]
        · unfold res
          rw [bset_ne e]
      rw [e1]
      refine ((I.rel k hk hkn).grow G).congr fun id x hx => ?_
      have : id ≠ (st i).nx := by
        intro h; subst h; exact (res_some hx).1 ⟨hkk, hN⟩
      simp [upd, this]
  · exact I.fn
  · exact I.rnd.mono (res_mono hle)
  · exact I.ur.mono (res_mono hle)
  · rw [put_defers]; exact I.dfs.mono (res_mono hle)
  · rw [put_size]; exact I.size
  · refine I.env_put T ho hi (Nat.le_refl _) (fun p _ => res_mono hle) ?_ (dd := a.defers)
    rw [hF]
    have e2 : max c0 (i + 1) = i + 1 := by omega
    rw [e2]
    exact hv.mono (hwide (i + 1) (by omega) (by omega))
  · refine I.fr.within (grown_fr G) (T.nx_le (Nat.zero_le i) (by omega)) ?_
    rw [Pos.toNat_succ]
    exact hN
end
end Go.AE
namespace Go.AE
open Go

section
variable {P : Program} {fi : FI} {ops : Array Oper} {st : Nat → St} {F : Nat → Fact} {bf : Nat → Nat → Prop}
variable {β0 : Be} {w0 : World} {b : Frame} {cs0 : List Frame} {D : Nat → Bool} {c0 : Nat} {β : Be} {H : HO} {a : Act} {md : Option FrameMode} {w : World} {i : Nat} {o : Oper}

/-- one more that acts -/
theorem Inv.eff (I : Inv P fi ops st F bf β0 w0 b cs0 D c0 β H a md w) (T : Tr P fi ops st F bf) (ho : ops[i]? = some o) (hi : D i = false) (hb : ∀ x, bf i x → D x = true) {v : AV} (hF : F i = .eff v) (rest : List Nat) (k : List Item) :
    ∃ β1 H1 a1 md1 w1, Steps P (lone (b.atR a (.inRegion ops (i :: rest) :: k)) (withMode md cs0) w) (lone (b.atR a1 (.inRegion ops rest :: k)) (withMode md1 cs0) w1) ∧
      Inv P fi ops st F bf β0 w0 b cs0 (setD D i) (i + 1) β1 H1 a1 md1 w1 := by
  have hlt := lt_size ho
  have hfact := T.fact i o ho
  rw [hF] at hfact
  obtain ⟨_, hgo⟩ := hfact
  have hci : c0 ≤ i := I.after T ho hi (by intro v; rw [hF]; rfl)
  have hno : NoE F c0 i := I.noE T ho hb (by intro v; rw [hF]; rfl)
  have hmax : max c0 i = i := by omega
  have hnam := I.nam T ho hi hb
  rw [hmax] at hnam
  have hc0 : nxa st c0 ≤ nxa st i := T.nx_le hci (by omega)
  have hi1 : nxa st i ≤ nxa st (i + 1) := T.step_nx hlt
  have hi1n : nxa st (i + 1) ≤ nxa st ops.size := T.nx_le (by omega) (Nat.le_refl _)
  -- dfs, u from c0 to i
  have same : ∀ k, c0 ≤ k → k ≤ i → (st k).dfs = (st c0).dfs ∧ (st k).u = (st c0).u := by
    intro k
    induction k with
    | zero => intro h1 _; have : c0 = 0 := by omega
              subst this; exact ⟨rfl, rfl⟩
    | succ k ih =>
      intro h1 h2
      by_cases e : c0 = k + 1
      · subst e; exact ⟨rfl, rfl⟩
      · obtain ⟨q1, q2⟩ := ih (by omega) (by omega)
        obtain ⟨ok, hok⟩ := getOp (ops := ops) (i := k) (by omega)
        have hf := T.fact k ok hok
        have hne := hno k (by omega) (by omega)
        rw [← q1, ← q2]
        cases hFk : F k <;> rw [hFk] at hf hne
        · exact ⟨hf.2.2.2.1, hf.2.2.2.2⟩
        · exact ⟨hf.2.2.2.2.2.2.1, hf.2.2.2.2.2.2.2⟩
        · exact ⟨hf.2.2.2.2.2.1, hf.2.2.2.2.2.2⟩
        · exact ⟨hf.2.2.2.2.2.1, hf.2.2.2.2.2.2⟩
        · cases hne
  obtain ⟨sd, su⟩ := same i hci (Nat.le_refl _)
  have hle0 : (res β (nxa st c0) (nxa st ops.size)).le (res β (nxa st i) (nxa st ops.size)) := res_le hc0
  have R := I.text T hci (by omega) hno
  have hfree : Free (res β (nxa st i) (nxa st ops.size)) (st i).nx (st (i + 1)).nx := by
    intro id h1 h2
    exact res_in ⟨h1, Nat.lt_of_lt_of_le h2 hi1n⟩
  obtain ⟨β', v', dd, md', w', hst, hv, hd, hu, R', Fe⟩ := hgo.go rest k (res β (nxa st i) (nxa st ops.size)) b a md cs0 w I.fn (I.rnd.mono hle0) (by rw [su]; exact I.ur.mono hle0) (by rw [sd]; exact I.dfs.mono hle0) I.size hnam R hfree
  -- the early ones are kept
  let β1 : Be := fun id => if nxa st (i + 1) ≤ id.toNat ∧ id.toNat < nxa st ops.size then β id else β' id
  let H1 : HO := fun id => if nxa st (i + 1) ≤ id.toNat ∧ id.toNat < nxa st ops.size then H id else hof (st (i + 1)).σ id
  have hβ1in : ∀ id : Pos, nxa st (i + 1) ≤ id.toNat ∧ id.toNat < nxa st ops.size → β1 id = β id := fun id h => if_pos h
  have hβ1out : ∀ id : Pos, ¬ (nxa st (i + 1) ≤ id.toNat ∧ id.toNat < nxa st ops.size) → β1 id = β' id := fun id h => if_neg h
  have hH1in : ∀ id : Pos, nxa st (i + 1) ≤ id.toNat ∧ id.toNat < nxa st ops.size → H1 id = H id := fun id h => if_pos h
  have hH1out : ∀ id : Pos, ¬ (nxa st (i + 1) ≤ id.toNat ∧ id.toNat < nxa st ops.size) → H1 id = hof (st (i + 1)).σ id := fun id h => if_neg h
  have hβ'none : ∀ id : Pos, nxa st (i + 1) ≤ id.toNat ∧ id.toNat < nxa st ops.size → β' id = none := by
    intro id h
    rw [Fe.out id (by intro c; have h1 := c.2; have h2 := h.1; unfold nxa at h2; omega)]
    exact res_in ⟨by omega, h.2⟩
  -- what an early number's block is
  have early : ∀ (id : Pos) x, nxa st (i + 1) ≤ id.toNat → id.toNat < nxa st ops.size → β id = some x → ∃ j v ob, i + 1 ≤ j ∧ j < ops.size ∧ D j = true ∧ F j = .alloc v ob ∧ (st j).nx = id := by
    intro id x h1 h2 h3
    obtain ⟨j, v2, ob2, q1, q2, q3, q4, q5⟩ := I.h3 id x (by omega) h2 h3
    refine ⟨j, v2, ob2, ?_, q2, q3, q4, q5⟩
    rcases Nat.lt_or_ge i j with h | h
    · exact h
    · have e5 : nxa st j = id.toNat := congrArg Pos.toNat q5
      by_cases e : j = i
      · subst e; rw [hF] at q4; cases q4
      · have := T.alloc_nx q4 q2
        have := T.nx_le (i := j + 1) (j := i) (by omega) (by omega)
        omega
  have midnone : ∀ (id : Pos), nxa st i ≤ id.toNat → id.toNat < nxa st (i + 1) → β id = none := by
    intro id h1 h2
    cases hx : β id with
    | none => rfl
    | some x =>
      obtain ⟨j, v2, ob2, q1, q2, q3, q4, q5⟩ := I.h3 id x (by omega) (by omega) hx
      have e5 : nxa st j = id.toNat := congrArg Pos.toNat q5
      have e6 := T.alloc_nx q4 q2
      by_cases e : j = i
      · subst e; rw [hF] at q4; cases q4
      · rcases Nat.lt_or_ge j i with h | h
        · have := T.nx_le (i := j + 1) (j := i) (by omega) (by omega)
          omega
        · have := T.nx_le (i := i + 1) (j := j) (by omega) (by omega)
          omega
  have hmono' := Fe.mono hfree
  -- β within β1, off the range
  have hle1 : ∀ (lo lo' : Nat), lo ≤ lo' → nxa st (i + 1) ≤ lo' → (res β lo (nxa st ops.size)).le (res β1 lo' (nxa st ops.size)) := by
    intro lo lo' hlo hlo' id x hx
    obtain ⟨h1, h2⟩ := res_some hx
    rw [res_eq (fun c => h1 ⟨by omega, c.2⟩)]
    by_cases hc : nxa st (i + 1) ≤ id.toNat ∧ id.toNat < nxa st ops.size
    · rw [hβ1in id hc]; exact h2
    · rw [hβ1out id hc]
      refine hmono' id x ?_
      rw [res_eq, h2]
      intro c
      by_cases hm : id.toNat < nxa st (i + 1)
      · rw [midnone id c.1 hm] at h2; cases h2
      · exact hc ⟨by omega, c.2⟩
  have hle' : ∀ lo, nxa st (i + 1) ≤ lo → β'.le (res β1 lo (nxa st ops.size)) := by
    intro lo hlo id x hx
    have hc : ¬ (nxa st (i + 1) ≤ id.toNat ∧ id.toNat < nxa st ops.size) := by
      intro c; rw [hβ'none id c] at hx; cases hx
    rw [res_eq (fun c => hc ⟨by omega, c.2⟩), hβ1out id hc]; exact hx
  have agr := I.agree T hci (by omega : i ≤ ops.size) hno
  have covs : ∀ bb, Cov (res β (nxa st i) (nxa st ops.size)) (hof (st i).σ) bb → Cov β H bb := by
    intro bb ⟨id, oo, x, h1, h2, h3⟩
    exact ⟨id, oo, x, by rw [← agr id x h2]; exact h1, (res_some h2).2, h3⟩
  have hltH : ∀ (id : Pos) x o, H id = some o → β id = some x → x.1 < w.heap.size := fun id x o q1 q2 => by
    have := (I.rel ops.size I.c0le (Nat.le_refl _)).obj id o x q1 (by rw [res_empty]; exact q2)
    exact this.lt
  have uncov : ∀ (id : Pos) x, nxa st (i + 1) ≤ id.toNat → id.toNat < nxa st ops.size → β id = some x → x.1 < w.heap.size ∧ ¬ Cov (res β (nxa st i) (nxa st ops.size)) (hof (st i).σ) x.1 := by
    intro id x h1 h2 h3
    obtain ⟨j, v2, ob2, q1, q2, q3, q4, q5⟩ := early id x h1 h2 h3
    have e3 := I.h2 j v2 ob2 (by omega) q2 q3 q4
    rw [q5] at e3
    refine ⟨hltH id x ob2 e3 h3, ?_⟩
    intro ⟨id3, o3, x3, k1, k2, k3⟩
    have hne : id3 ≠ id := by
      intro h; subst h; exact (res_some k2).1 ⟨by omega, h2⟩
    exact I.apart id x (by omega) h2 h3 id3 x3 o3 hne (by rw [← agr id3 x3 k2]; exact k1) (res_some k2).2 k3
  have apart1 : ∀ (id : Pos) x, nxa st (i + 1) ≤ id.toNat → id.toNat < nxa st ops.size → β id = some x → ∀ id2 x2 o2, id2 ≠ id → H1 id2 = some o2 → β1 id2 = some x2 → x2.1 ≠ x.1 := by
    intro id x h1 h2 h3 id2 x2 o2 hne hH2 hb2 heq
    by_cases hc : nxa st (i + 1) ≤ id2.toNat ∧ id2.toNat < nxa st ops.size
    · rw [hH1in id2 hc] at hH2
      rw [hβ1in id2 hc] at hb2
      exact I.apart id x (by omega) h2 h3 id2 x2 o2 hne hH2 hb2 heq
    · rw [hH1out id2 hc] at hH2
      rw [hβ1out id2 hc] at hb2
      obtain ⟨u1, u2⟩ := uncov id x h1 h2 h3
      exact u2 (Fe.cov x.1 u1 ⟨id2, o2, x2, hH2, hb2, heq⟩)
  refine ⟨β1, H1, _, md', w', hst, ?_⟩
  constructor
  · exact hlt
  · intro e he hE
    by_cases e2 : e = i
    · subst e2; simp [setD_same]
    · rw [setD_ne e2, I.effD e he hE]
      constructor
      · intro h; omega
      · intro h
        rcases Nat.lt_or_ge e c0 with h2 | h2
        · exact h2
        · rw [hno e h2 (by omega)] at hE; cases hE
  · intro j v2 ob2 hj hF2
    by_cases e2 : j = i
    · subst e2; exact setD_same
    · refine setD_mono ?_
      obtain ⟨oj, hoj⟩ := getOp (ops := ops) (i := j) (by omega)
      rcases T.pair j i oj o (by omega) hoj ho with h | h
      · exact hb j h
      · have := h.2.2.2; rw [hF2, hF] at this; cases this
  · exact .inr ⟨i, v, rfl, hF⟩
  · intro j hj x hx
    by_cases e : j = i
    · subst e; exact setD_mono (hb x hx)
    · rw [setD_ne e] at hj; exact setD_mono (I.closed j hj x hx)
  · exact hH1out
  · intro j v2 ob2 h1 h2 h3 hF2
    rw [setD_ne (by omega)] at h3
    have hr : nxa st (i + 1) ≤ (st j).nx.toNat ∧ (st j).nx.toNat < nxa st ops.size := ⟨T.nx_le h1 (by omega), alloc_lt T hF2 h2 (Nat.le_refl _)⟩
    rw [hH1in _ hr]
    exact I.h2 j v2 ob2 (by omega) h2 h3 hF2
  · intro id x h1 h2 h3
    rw [hβ1in id ⟨h1, h2⟩] at h3
    obtain ⟨j, v2, ob2, q1, q2, q3, q4⟩ := early id x h1 h2 h3
    exact ⟨j, v2, ob2, q1, q2, setD_mono q3, q4⟩
  · intro id x h1 h2 h3
    rw [hβ1in id ⟨h1, h2⟩] at h3
    exact apart1 id x h1 h2 h3
  · intro k hk hkn
    have hkk : nxa st (i + 1) ≤ nxa st k := T.nx_le hk hkn
    refine ⟨R'.g0.mono (hle' _ hkk), ?_, ?_⟩
    · intro id oo x h1 h2
      obtain ⟨h3, h4⟩ := res_some h2
      by_cases hc : nxa st (i + 1) ≤ id.toNat ∧ id.toNat < nxa st ops.size
      · rw [hH1in id hc] at h1
        rw [hβ1in id hc] at h4
        have q := (I.rel k (by omega) hkn).obj id oo x h1 (by rw [res_eq h3]; exact h4)
        obtain ⟨u1, u2⟩ := uncov id x hc.1 hc.2 h4
        exact (q.mono (hle1 _ _ (Nat.le_refl _) hkk)).heap (Fe.keep _ u1 u2)
      · rw [hH1out id hc] at h1
        rw [hβ1out id hc] at h4
        exact (R'.obj id oo x h1 h4).mono (hle' _ hkk)
    · intro p q op oq xp xq hne hp hq bp bq hbb
      have bp' := (res_some bp).2
      have bq' := (res_some bq).2
      by_cases hcp : nxa st (i + 1) ≤ p.toNat ∧ p.toNat < nxa st ops.size
      · have b2 := bp'
        rw [hβ1in p hcp] at b2
        exact (apart1 p xp hcp.1 hcp.2 b2 q xq oq (fun h => hne h.symm) hq bq' hbb.symm).elim
      · by_cases hcq : nxa st (i + 1) ≤ q.toNat ∧ q.toNat < nxa st ops.size
        · have b2 := bq'
          rw [hβ1in q hcq] at b2
          exact (apart1 q xq hcq.1 hcq.2 b2 p xp op hne hp bp' hbb).elim
        · rw [hH1out p hcp] at hp
          rw [hH1out q hcq] at hq
          rw [hβ1out p hcp] at bp'
          rw [hβ1out q hcq] at bq'
          exact R'.sep p q op oq xp xq hne hp hq bp' bq' hbb
  · exact I.fn
  · exact I.rnd.mono (hle1 _ _ (by omega) (Nat.le_refl _))
  · exact hu.mono (hle' _ (Nat.le_refl _))
  · rw [put_defers]; exact hd.mono (hle' _ (Nat.le_refl _))
  · rw [put_size]; exact I.size
  · refine I.env_put T ho hi (by omega) (fun p hp => hle1 _ _ (T.nx_le (by omega) (by omega)) (T.nx_le (by omega) (by omega))) ?_
    rw [hF]
    exact hv.mono (hle' _ (T.nx_le (by omega) (by omega)))
  · refine I.fr.within (p := (st i).nx) (q := (st (i + 1)).nx) ?_ (T.nx_le (Nat.zero_le i) (by omega)) hi1n
    refine ⟨hi1, ?_, Fe.size, ?_, ?_, Fe.os, Fe.tape, Fe.output⟩
    · intro id hid
      by_cases hc : nxa st (i + 1) ≤ id.toNat ∧ id.toNat < nxa st ops.size
      · exact hβ1in id hc
      · rw [hβ1out id hc, Fe.out id hid, res_eq]
        intro c
        by_cases hm : id.toNat < nxa st (i + 1)
        · exact hid ⟨c.1, hm⟩
        · exact hc ⟨by omega, c.2⟩
    · intro bb hb1 hb2
      exact Fe.keep bb hb1 fun h => hb2 (covs bb h)
    · intro bb hb1 ⟨id, oo, x, h1, h2, h3⟩
      by_cases hc : nxa st (i + 1) ≤ id.toNat ∧ id.toNat < nxa st ops.size
      · rw [hH1in id hc] at h1
        rw [hβ1in id hc] at h2
        exact ⟨id, oo, x, h1, h2, h3⟩
      · rw [hH1out id hc] at h1
        rw [hβ1out id hc] at h2
        exact covs bb (Fe.cov bb hb1 ⟨id, oo, x, h1, h2, h3⟩)
end
end Go.AE
namespace Go.AE
open Go

section
variable {P : Program} {fi : FI} {ops : Array Oper} {st : Nat → St} {F : Nat → Fact} {bf : Nat → Nat → Prop}

theorem Tr.same (T : Tr P fi ops st F bf) {b : Nat} : ∀ {k : Nat}, b ≤ k → k ≤ ops.size → NoE F b k → (st k).dfs = (st b).dfs ∧ (st k).u = (st b).u
  | 0, h, _, _ => by
    have : b = 0 := by omega
    subst this; exact ⟨rfl, rfl⟩
  | k + 1, h, hk, hn => by
    by_cases e : b = k + 1
    · subst e; exact ⟨rfl, rfl⟩
    · obtain ⟨q1, q2⟩ := T.same (b := b) (k := k) (by omega) (by omega) (fun e h1 h2 => hn e h1 (by omega))
      obtain ⟨ok, hok⟩ := getOp (ops := ops) (i := k) (by omega)
      have hf := T.fact k ok hok
      have hne := hn k (by omega) (by omega)
      rw [← q1, ← q2]
      cases hFk : F k <;> rw [hFk] at hf hne
      · exact ⟨hf.2.2.2.1, hf.2.2.2.2⟩
      · exact ⟨hf.2.2.2.2.2.2.1, hf.2.2.2.2.2.2.2⟩
      · exact ⟨hf.2.2.2.2.2.1, hf.2.2.2.2.2.2⟩
      · exact ⟨hf.2.2.2.2.2.1, hf.2.2.2.2.2.2⟩
      · cases hne

/-- the first effect at or behind b -/
theorem first_e {F : Nat → Fact} : ∀ {i b : Nat}, b ≤ i → ∃ e, b ≤ e ∧ e ≤ i ∧ NoE F b e ∧ (e = i ∨ (F e).isE = true)
  | 0, b, h => ⟨b, Nat.le_refl _, h, fun e h1 h2 => by omega, .inl (by omega)⟩
  | i + 1, b, h => by
    by_cases e : b = i + 1
    · subst e; exact ⟨i + 1, Nat.le_refl _, Nat.le_refl _, fun e h1 h2 => by omega, .inl rfl⟩
    · obtain ⟨x, h1, h2, h3, h4⟩ := first_e (F := F) (i := i) (b := b) (by omega)
      cases hx : (F x).isE with
      | true => exact ⟨x, h1, by omega, h3, .inr hx⟩
      | false =>
        rcases h4 with rfl | h4
        · refine ⟨x + 1, by omega, Nat.le_refl _, fun e h5 h6 => ?_, .inl rfl⟩
          by_cases e2 : e = x
          · subst e2; exact hx
          · exact h3 e h5 (by omega)
        · rw [hx] at h4; cases h4

section
variable {β0 : Be} {w0 : World} {b : Frame} {cs0 : List Frame} {D : Nat → Bool} {c0 : Nat} {β : Be} {H : HO} {a : Act} {md : Option FrameMode} {w : World} {i : Nat} {o : Oper}

/-- a read, whenever it is done -/
theorem Inv.readV (I : Inv P fi ops st F bf β0 w0 b cs0 D c0 β H a md w) (T : Tr P fi ops st F bf) (ho : ops[i]? = some o) (hi : D i = false) (hb : ∀ x, bf i x → D x = true) {v : AV} (hF : (∃ q, F i = .rd v q) ∨ F i = .read v) :
    ∃ v', VR (res β (nxa st (max c0 (i + 1))) (nxa st ops.size)) v v' ∧ (execOp a.eval o).run P w = .ok (.value v') w := by
  have hlt := lt_size ho
  have hnam := I.nam T ho hi hb
  have hfact := T.fact i o ho
  rcases hF with ⟨q, hF⟩ | hF
  · rw [hF] at hfact
    obtain ⟨_, _, hall, hq, _⟩ := hfact
    rcases Nat.lt_or_ge i c0 with hc | hc
    · -- an effect behind it in the text is done
      have e1 : max c0 i = c0 := by omega
      have e2 : max c0 (i + 1) = c0 := by omega
      rw [e1] at hnam
      rw [e2]
      refine hall (hof (st c0).σ) (fun q' hq' => ?_) _ a w (I.text T (Nat.le_refl _) I.c0le (fun e h1 h2 => by omega)) hnam.opds
      subst hq'
      rcases I.last with h0 | ⟨e, v2, h0, hFe⟩
      · omega
      · have hlt2 : e < ops.size := by have := I.c0le; omega
        have hDe : D e = true := (I.effD e hlt2 (by rw [hFe]; rfl)).2 (by omega)
        have hne : i ≠ e := by intro h; subst h; rw [hF] at hFe; cases hFe
        have := (T.ld i e v q' v2 hlt hlt2 hF hFe).2 (by omega) (fun hbf => by have := I.closed e hDe i hbf; rw [hi] at this; cases this)
        rw [h0]; exact this
    · have e1 : max c0 i = i := by omega
      rw [e1] at hnam
      have wide : ∀ v', VR (res β (nxa st i) (nxa st ops.size)) v v' → VR (res β (nxa st (max c0 (i + 1))) (nxa st ops.size)) v v' :=
        fun v' hv => hv.mono (res_le (T.nx_le (by omega) (by have := I.c0le; omega)))
      cases q with
      | none =>
        obtain ⟨v', h1, h2⟩ := hall H (fun _ h => by cases h) _ a w (I.rel i hc (by omega)) hnam.opds
        exact ⟨v', wide v' h1, h2⟩
      | some q =>
        obtain ⟨hlone, hq0⟩ := hq q rfl
        have key : ∃ e, e ≤ i ∧ RqH (hof (st e).σ) q ∧ ∀ x, res β (nxa st i) (nxa st ops.size) (RqId q) = some x → hof (st e).σ (RqId q) = H (RqId q) := by
          by_cases hj : ∃ j v2 ob, c0 ≤ j ∧ j < i ∧ D j = true ∧ F j = .alloc v2 ob ∧ (st j).nx = RqId q
          · obtain ⟨j, v2, ob, j1, j2, j3, j4, j5⟩ := hj
            obtain ⟨e, h1, h2, h3, h4⟩ := first_e (F := F) (i := i) (b := j + 1) (by omega)
            refine ⟨e, h2, ?_, fun x hx => ?_⟩
            · rcases h4 with rfl | h4
              · exact hq0
              · by_cases he : e = i
                · subst he; exact hq0
                · cases hFe : F e with
                  | eff v3 => exact (T.ld i e v q v3 hlt (by omega) hF hFe).1 (by omega) (fun hbf => by have := (I.effD e (by omega) h4).1 (hb e hbf); omega)
                  | _ => rw [hFe] at h4; cases h4
            · rw [← j5, T.born j4 (by omega) (by omega) h3, I.h2 j v2 ob j1 (by omega) j3 j4]
          · obtain ⟨e, h1, h2, h3, h4⟩ := first_e (F := F) (i := i) (b := c0) hc
            refine ⟨e, h2, ?_, fun x hx => ?_⟩
            · rcases h4 with rfl | h4
              · exact hq0
              · by_cases he : e = i
                · subst he; exact hq0
                · cases hFe : F e with
                  | eff v3 => exact (T.ld i e v q v3 hlt (by omega) hF hFe).1 (by omega) (fun hbf => by have := (I.effD e (by omega) h4).1 (hb e hbf); omega)
                  | _ => rw [hFe] at h4; cases h4
            · obtain ⟨k1, k2⟩ := res_some hx
              by_cases hr : nxa st c0 ≤ (RqId q).toNat ∧ (RqId q).toNat < nxa st ops.size
              · obtain ⟨j, v2, ob, q1, q2, q3, q4, q5⟩ := I.h3 _ x hr.1 hr.2 k2
                refine (hj ⟨j, v2, ob, q1, ?_, q3, q4, q5⟩).elim
                rcases Nat.lt_or_ge j i with h | h
                · exact h
                · have h6 := T.nx_le h (Nat.le_of_lt q2)
                  have e5 : nxa st j = (RqId q).toNat := congrArg Pos.toNat q5
                  exact absurd ⟨by omega, hr.2⟩ k1
              · rw [I.h1 _ hr]
                refine T.stay h1 (by omega) h3 _ fun c => hr ⟨c.1, ?_⟩
                exact Nat.lt_of_lt_of_le c.2 (T.nx_le (by omega) (Nat.le_refl _))
        obtain ⟨e, _, he1, he2⟩ := key
        have R2 := (I.rel i hc (by omega)).congr (h' := fun id => if id = RqId q then hof (st e).σ id else H id) (fun id x hx => by
          by_cases h : id = RqId q
          · subst h; simp only [if_true]; exact he2 x hx
          · simp [h])
        obtain ⟨v', h1, h2⟩ := hall _ (fun q' hq' => by cases hq'; exact RqH.congr hlone (by simp) he1) _ a w R2 hnam.opds
        exact ⟨v', wide v' h1, h2⟩
  · rw [hF] at hfact
    obtain ⟨_, _, hat, _⟩ := hfact
    have hc : c0 ≤ i := I.after T ho hi (by intro v; rw [hF]; rfl)
    have e1 : max c0 i = i := by omega
    rw [e1] at hnam
    obtain ⟨v', h1, h2⟩ := hat _ a w (I.text T hc (by omega) (I.noE T ho hb (by intro v; rw [hF]; rfl))) hnam.opds
    exact ⟨v', h1.mono (res_le (T.nx_le (by omega) (by have := I.c0le; omega))), h2⟩

/-- one more operation -/
theorem Inv.step (I : Inv P fi ops st F bf β0 w0 b cs0 D c0 β H a md w) (T : Tr P fi ops st F bf) (hlt : i < ops.size) (hi : D i = false) (hb : ∀ x, bf i x → D x = true) (rest : List Nat) (k : List Item) :
    ∃ c1 β1 H1 a1 md1 w1, Steps P (lone (b.atR a (.inRegion ops (i :: rest) :: k)) (withMode md cs0) w) (lone (b.atR a1 (.inRegion ops rest :: k)) (withMode md1 cs0) w1) ∧
      Inv P fi ops st F bf β0 w0 b cs0 (setD D i) c1 β1 H1 a1 md1 w1 := by
  obtain ⟨o, ho⟩ := getOp hlt
  have hmx : max c0 i ≤ ops.size := by have := I.c0le; omega
  have hG := (I.rel (max c0 i) (by omega) hmx).g0
  have hnam := I.nam T ho hi hb
  have hfact := T.fact i o ho
  cases hF : F i with
  | skip =>
    rw [hF] at hfact
    have hw := hfact.1 _ a hG hnam
    exact ⟨c0, β, H, _, md, w, .one (stepR_not ho hw), I.value T ho hi hb (by rw [hF]; rfl) (by intro v ob; rw [hF]; simp) (by rw [hF]; exact .tuple [] [] .nil)⟩
  | rd v q =>
    rw [hF] at hfact
    have hw := hfact.1 _ a hG hnam
    obtain ⟨v', h1, h2⟩ := I.readV T ho hi hb (.inl ⟨q, hF⟩)
    exact ⟨c0, β, H, _, md, w, .one (stepR_gives ho hw hfact.2.1 (.inl h2)), I.value T ho hi hb (by rw [hF]; rfl) (by intro v ob; rw [hF]; simp) (by rw [hF]; exact h1)⟩
  | read v =>
    rw [hF] at hfact
    have hw := hfact.1 _ a hG hnam
    obtain ⟨v', h1, h2⟩ := I.readV T ho hi hb (.inr hF)
    exact ⟨c0, β, H, _, md, w, .one (stepR_gives ho hw hfact.2.1 (.inl h2)), I.value T ho hi hb (by rw [hF]; rfl) (by intro v ob; rw [hF]; simp) (by rw [hF]; exact h1)⟩
  | alloc v ob =>
    rw [hF] at hfact
    have hw := hfact.1 _ a hG hnam
    obtain ⟨β1, H1, v', w', h1, h2⟩ := I.alloc T ho hi hb hF
    exact ⟨c0, β1, H1, _, md, w', .one (stepR_gives ho hw hfact.2.1 (.inl h1)), h2⟩
  | eff v =>
    obtain ⟨β1, H1, a1, md1, w1, h1, h2⟩ := I.eff T ho hi hb hF rest k
    exact ⟨i + 1, β1, H1, a1, md1, w1, h1, h2⟩
end

/-- an order that keeps bf -/
def Ord (bf : Nat → Nat → Prop) (n : Nat) : (Nat → Bool) → List Nat → Prop
  | _, [] => True
  | D, i :: r => i < n ∧ D i = false ∧ (∀ x, bf i x → D x = true) ∧ Ord bf n (setD D i) r
def setAll : (Nat → Bool) → List Nat → Nat → Bool
  | D, [] => D
  | D, i :: r => setAll (setD D i) r

theorem Inv.run {β0 : Be} {w0 : World} {b : Frame} {cs0 : List Frame} (T : Tr P fi ops st F bf) (k : List Item) : ∀ (π : List Nat) {D : Nat → Bool} {c0 : Nat} {β : Be} {H : HO} {a : Act} {md : Option FrameMode} {w : World}
    (_ : Inv P fi ops st F bf β0 w0 b cs0 D c0 β H a md w) (_ : Ord bf ops.size D π),
    ∃ c1 β1 H1 a1 md1 w1, Steps P (lone (b.atR a (.inRegion ops π :: k)) (withMode md cs0) w) (lone (b.atR a1 (.inRegion ops [] :: k)) (withMode md1 cs0) w1) ∧
      Inv P fi ops st F bf β0 w0 b cs0 (setAll D π) c1 β1 H1 a1 md1 w1
  | [], D, c0, β, H, a, md, w, I, _ => ⟨c0, β, H, a, md, w, Steps.refl _ _, I⟩
  | i :: r, D, c0, β, H, a, md, w, I, ho => by
    obtain ⟨h1, h2, h3, h4⟩ := ho
    obtain ⟨c1, β1, H1, a1, md1, w1, q1, q2⟩ := I.step T h1 h2 h3 r k
    obtain ⟨c2, β2, H2, a2, md2, w2, r1, r2⟩ := Inv.run T k r q2 h4
    exact ⟨c2, β2, H2, a2, md2, w2, q1.trans r1, r2⟩

theorem cur_none {m : Nat} {s0 : St} {t : Nat} : ∀ k, cur ops m s0 F (fun _ => false) k t = (look m s0.l s0.e t, 0)
  | 0 => rfl
  | k + 1 => by rw [cur_succ, cur_none k]; simp
theorem cur_done {m : Nat} {s0 : St} {D : Nat → Bool} {t n : Nat} (hD : ∀ i, i < n → D i = true) : ∀ k, k ≤ n → cur ops m s0 F D k t = cur ops m s0 F (fun _ => true) k t
  | 0, _ => rfl
  | k + 1, h => by rw [cur_succ, cur_succ, cur_done hD k (by omega), hD k (by omega)]

/-- in any order that keeps bf, the region comes to where the text's order comes to -/
theorem draw_goes (T : Tr P fi ops st F bf) {π : List Nat} (hπ : Ord bf ops.size (fun _ => false) π) (hall : ∀ i, i < ops.size → setAll (fun _ => false) π i = true) (k : List Item) :
    Goes P fi (st 0) (st ops.size) (.inRegion ops π :: k) (.inRegion ops [] :: k) := by
  have hle := T.nx_le (Nat.zero_le ops.size) (Nat.le_refl _)
  refine ⟨hle, fun β b a md cs0 w hs hf => ?_⟩
  have hres : ∀ lo, nxa st 0 ≤ lo → res β lo (nxa st ops.size) = β := by
    intro lo hlo
    funext id
    by_cases hc : lo ≤ id.toNat ∧ id.toNat < nxa st ops.size
    · rw [res_in hc, hf id (Nat.le_trans hlo hc.1) hc.2]
    · exact res_eq hc
  have I0 : Inv P fi ops st F bf β w b cs0 (fun _ => false) 0 β (hof (st 0).σ) a md w := by
    constructor
    · exact Nat.zero_le _
    · intro e _ _; simp
    · intro j v ob h; omega
    · exact .inl rfl
    · intro j h; cases h
    · intro id _; rfl
    · intro j v ob _ _ h; cases h
    · intro id x h1 h2 h3; rw [hf id h1 h2] at h3; cases h3
    · intro id x h1 h2 h3; rw [hf id h1 h2] at h3; cases h3
    · intro k _ hk; rw [hres _ (T.nx_le (Nat.zero_le k) hk)]; exact hs.rel
    · exact hs.fn
    · rw [hres _ (Nat.le_refl _)]; exact hs.rnd
    · rw [hres _ (Nat.le_refl _)]; exact hs.u
    · rw [hres _ (Nat.le_refl _)]; exact hs.dfs
    · exact hs.size
    · intro t v h
      rw [cur_none] at h ⊢
      obtain ⟨v', q1, q2⟩ := hs.env t v h
      refine ⟨v', q1, ?_⟩
      have : max 0 ((look (maskOf P fi.fid) (st 0).l (st 0).e t, 0) : Option AV × Nat).2 = 0 := rfl
      rw [this, hres _ (Nat.le_refl _)]; exact q2
    · exact ⟨hle, fun _ _ => rfl, Nat.le_refl _, fun _ _ _ => rfl, fun _ _ h => h, rfl, rfl, rfl⟩
  obtain ⟨c1, β1, H1, a1, md1, w1, q1, I⟩ := Inv.run T k π I0 hπ
  have hno : NoE F c1 ops.size := by
    intro e h1 h2
    cases hE : (F e).isE with
    | false => rfl
    | true => have := (I.effD e h2 hE).1 (hall e h2); omega
  obtain ⟨sd, su⟩ := T.same I.c0le (Nat.le_refl _) hno
  have hsub : (res β1 (nxa st c1) (nxa st ops.size)).le β1 := res_sub
  have R := I.text T I.c0le (Nat.le_refl _) hno
  have agr := I.agree T I.c0le (Nat.le_refl _) hno
  rw [res_empty] at R agr
  refine ⟨β1, a1, md1, w1, q1, ⟨I.fn, I.rnd.mono hsub, by rw [su]; exact I.ur.mono hsub, ?_, I.size, by rw [sd]; exact I.dfs.mono hsub, R⟩, ?_⟩
  · intro t v hv
    obtain ⟨v', k1, k2⟩ := I.env t v (by rw [cur_done hall ops.size (Nat.le_refl _), T.cur_look _ (Nat.le_refl _)]; exact hv)
    exact ⟨v', k1, k2.mono res_sub⟩
  · refine ⟨hle, I.fr.out, I.fr.size, I.fr.keep, fun bb hb1 ⟨id, oo, x, h1, h2, h3⟩ => I.fr.cov bb hb1 ⟨id, oo, x, ?_, h2, h3⟩, I.fr.os, I.fr.tape, I.fr.output⟩
    rw [← agr id x h2]; exact h1
end
end Go.AE
