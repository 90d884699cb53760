/-
  A part of the proof that the evaluator is sound: what it finds, the machine does, whatever the tape; conditions as each theorem names them.
-/
import Derived.Test.YtodboimcfpefhaaGreatDoorAe6
namespace Go.AE
open Go

section
variable {P : Program} {L : Lv}

theorem settled_same {β β' : Be} {m m1 : Option (List (AV × Bool))} {md : FrameMode} (h : ModeR β m md) (hs : settled m = true) (h1 : ModeR β' m1 md) : settleU m1 = m1 := by
  cases m1 with
  | none => rfl
  | some ch1 =>
    obtain ⟨ch', rfl, hch⟩ := h1
    cases m with
    | none => cases h
    | some ch =>
      obtain ⟨ch2, he, hch2⟩ := h
      cases he
      cases hch with
      | nil => rfl
      | cons v v' t l l' hv hl =>
        cases hch2 with
        | cons v2 _ _ l2 _ _ _ =>
          cases t with
          | true => simp [settled] at hs
          | false => rfl

theorem raise_mode {β : Be} {m : Option (List (AV × Bool))} {c : Frame} (hc : ModeR β m c.mode) {ch : List (AV × Bool)} {ch' : List PanicEntry} (h : ChR β ch ch') : ∃ md', ModeR β (raisedU m ch) md' ∧ c.raise ch' = { c with mode := md' } := by
  obtain ⟨cf, ctm, ctd, cdf, cmd, ckd, cro⟩ := c
  simp only at hc
  cases m with
  | none => cases hc; exact ⟨.panicking ch', ⟨ch', rfl, h⟩, rfl⟩
  | some old => obtain ⟨o', rfl, ho⟩ := hc; exact ⟨.panicking (ch' ++ o'), ⟨_, rfl, h.append ho⟩, rfl⟩

theorem leave_sound (hL : LvOk P L) : ∀ (dfs : List DF) (m : Option (List (AV × Bool))) (σ : Heap) (nx : Pos) {c : Option (List (AV × Bool)) → Heap → Pos → Prop}, leave L dfs m σ nx c →
    ∃ m' σ' nx', c m' σ' nx' ∧ LeaveOk P dfs m σ nx m' σ' nx'
  | [], m, σ, nx, c, h => by
    refine ⟨m, σ, nx, h, Nat.le_refl _, fun β fr cs w hm hd R _ => ⟨β, fr.mode, w, ?_, hm, R, Fr.refl _ _ _ _⟩⟩
    have hde : fr.defers = [] := by cases hdd : fr.defers with
      | nil => rfl
      | cons a b => rw [hdd] at hd; cases hd
    have : ({ fr with defers := [], mode := fr.mode } : Frame) = fr := by cases fr; simp only at hde; subst hde; rfl
    rw [this]
    exact Steps.refl _ _
  | .coll id :: dfs, m, σ, nx, c, h => by
    have h' : withObj σ id fun o => (match o with | .dfr => T.set id σ none fun σ => leave L dfs m σ nx c | _ => False) := h
    obtain ⟨o, ho, h1⟩ := withObj_spec h'
    rcases o with _ | _ | _ | _ | _ | _ <;> (try exact h1.elim)
    obtain ⟨σ1, h2, h3⟩ := set_spec h1
    obtain ⟨m', σ', nx', h4, h5⟩ := leave_sound hL dfs m σ1 nx h2
    refine ⟨m', σ', nx', h4, h5.1, fun β fr cs w hm hd R hf => ?_⟩
    generalize hdd : fr.defers = ds0 at hd
    cases hd with
    | coll _ r y _ ds hb hds =>
      have q1 : w.heap[r]? = some (.deferred (some [])) := R.obj id _ _ ho hb
      let w1 : World := { w with heap := w.heap.setIfInBounds r (.deferred none) }
      have hrun : (Instr.takeDeferred r).run P w = .ok [] w1 := by
        simp [Instr.takeDeferred, getObj, setObj, Sem.run, q1, w1]
      have hoth : ∀ b', b' ≠ r → w1.heap[b']? = w.heap[b']? := by
        intro b' hne
        simp only [w1, Array.getElem?_setIfInBounds]
        rw [if_neg (fun h => hne h.symm)]
      have R1 := unset_rel (w' := w1) R ho hb (by simp) hoth
      have F1 := unset_fr (h := hof σ) (w := w) (w' := w1) (nx := nx) ho hb (R.ge ho hb (by simp)) (by simp [w1]) hoth rfl rfl rfl
      rw [← h3] at R1 F1
      have st := step_collected (P := P) (fr := fr) (cs := cs) (w := w) (w' := w1) (ds := ds) hm.notRun hdd hrun
      obtain ⟨β', md', w', s1, s2, s3, s4⟩ := h5.2 β { fr with defers := ds } cs w1 hm hds R1 (hf.right F1)
      exact ⟨β', md', w', Steps.head st s1, s2, s3, F1.trans s4⟩
  | .call f args :: dfs, m, σ, nx, c, h => by
    cases f
    case func fn first cap =>
      cases fn
      case func g =>
        cases hs : settled m with
        | false =>
          exfalso
          have h' : (match (AV.func (.func g) first cap), settled m with
            | .func (.func g) first cap, true => L.call g (first ++ args ++ cap) (some m) σ nx fun r u σ nx => (match u with
              | some m' => (match r with | .ret _ => leave L dfs (settleU m') σ nx c | .pan ch => leave L dfs (raisedU m' ch) σ nx c)
              | none => False)
            | _, _ => False) := h
          rw [hs] at h'
          exact h'
        | true =>
          have h' : (match (AV.func (.func g) first cap), settled m with
            | .func (.func g) first cap, true => L.call g (first ++ args ++ cap) (some m) σ nx fun r u σ nx => (match u with
              | some m' => (match r with | .ret _ => leave L dfs (settleU m') σ nx c | .pan ch => leave L dfs (raisedU m' ch) σ nx c)
              | none => False)
            | _, _ => False) := h
          rw [hs] at h'
          obtain ⟨r, u', σ1, nx1, h1, h2⟩ := hL.call _ _ _ _ _ _ h'
          cases u' with
          | none => exact h1.elim
          | some m1 =>
            have hnext : ∃ m2, (match r with | .ret _ => m2 = settleU m1 | .pan ch => m2 = raisedU m1 ch) ∧ leave L dfs m2 σ1 nx1 c := by
              cases r with
              | ret v => exact ⟨_, rfl, h1⟩
              | pan ch => exact ⟨_, rfl, h1⟩
            obtain ⟨m2, hm2, h3⟩ := hnext
            obtain ⟨m', σ', nx', h4, h5⟩ := leave_sound hL dfs m2 σ1 nx1 h3
            refine ⟨m', σ', nx', h4, Nat.le_trans h2.1 h5.1, fun β fr cs w hm hd R hf => ?_⟩
            generalize hdd : fr.defers = ds0 at hd
            cases hd with
            | call _ _ _ _ x' c' args' _ ds hx hc ha hds =>
              obtain ⟨β1, md1, w1, R1, U1, F1, hcase⟩ := h2.2 β w (x' ++ args' ++ c') .deferred (some fr.mode) ({ fr with defers := ds } :: cs) ((hx.append ha).append hc) R ⟨rfl, by simp, fr.mode, rfl, hm⟩ (hf.left h5.1)
              have hb1 := F1.mono (hf.left h5.1)
              obtain ⟨_, _, x1, rfl, hx1⟩ := U1
              have hargs : ((⟨x' ++ args'⟩ : Array Value) ++ ⟨c'⟩) = ⟨x' ++ args' ++ c'⟩ := by apply Array.ext'; simp
              have fin : ∀ md2, ModeR β1 m2 md2 → Steps P (lone fr cs w) (lone { fr with defers := ds, mode := md2 } cs w1) →
                  ∃ β' md' w', Steps P (lone fr cs w) (lone { fr with defers := [], mode := md' } cs w') ∧ ModeR β' m' md' ∧ Rel (maskOf P) (ntmpsOf P) β' (hof σ') w' ∧ Fr β (hof σ) w nx β' (hof σ') w' nx' := by
                intro md2 hmd2 hst
                obtain ⟨β', md', w', s1, s2, s3, s4⟩ := h5.2 β1 { fr with defers := ds, mode := md2 } cs w1 hmd2 (hds.mono hb1) R1 (hf.right F1)
                exact ⟨β', md', w', hst.trans s1, s2, s3, F1.trans s4⟩
              rcases hcase with ⟨v0, v', rfl, hv, hrun, hmd⟩ | ⟨hrun, fr2, hst, hend⟩
              · cases hmd
                simp only at hm2
                rw [settled_same hm hs hx1] at hm2
                subst hm2
                refine fin fr.mode hx1 (.one ?_)
                exact step_deferred_value (P := P) (fr := fr) (cs := cs) (ds := ds) hm.notRun hdd rfl (by rw [hargs]; exact hrun)
              · have st := step_deferred_enter (P := P) (fr := fr) (cs := cs) (ds := ds) hm.notRun hdd rfl (by rw [hargs]; exact hrun)
                obtain ⟨e1, e2, e3, fn, e4, e5⟩ := hend
                cases r with
                | ret v =>
                  obtain ⟨e5, v', hv, e6⟩ := e5
                  simp only at hm2
                  subst hm2
                  obtain ⟨md2, z1, z2⟩ := step_leave_deferred (P := P) (fr := fr2) (cs := cs) (w := w1) (c := { fr with defers := ds, mode := x1 }) hx1 e5 e2 e3 (by rw [e1]; exact e4) e6
                  exact fin md2 z1 (Steps.head st (hst.trans (.one z2)))
                | pan ch =>
                  obtain ⟨ch', hch, e5⟩ := e5
                  simp only at hm2
                  subst hm2
                  have z2 := step_leave_panicked (P := P) (fr := fr2) (c := { fr with defers := ds, mode := x1 }) (cs := cs) (w := w1) (chain := ch') ⟨e5, e2, fn, by rw [e1]; exact e4⟩
                  obtain ⟨md2, z1, z3⟩ := raise_mode (c := { fr with defers := ds, mode := x1 }) hx1 hch
                  rw [z3] at z2
                  exact fin md2 z1 (Steps.head st (hst.trans (.one z2)))
      all_goals exact h.elim
    all_goals exact h.elim
end
end Go.AE
namespace Go.AE
open Go

section
variable {P : Program} {L : Lv}

theorem callFunc_enter {f : FuncId} {fn : Func} {code : Code} {args : Array Value} {w : World} (hf : P.funcs[f]? = some fn) (hb : fn.body = some code) (hn : (fn.name == "runtime.NumGoroutine") = false) :
    (callFunc f args).run P w = .ok (.enter f args) w := by
  simp only [callFunc, Sem.run_bind, run_program, Result.andThen_ok, hf, hn, hb]
  simp

theorem ntmpsOf_eq {f : FuncId} {fn : Func} (h : nthO P.funcs.toList f = some fn) : ntmpsOf P f = fn.ntmps := by
  unfold ntmpsOf; rw [h]

/-- a call of a function with a body -/
theorem call_body (hL : LvOk P L) {f : FuncId} {fn : Func} {code : Code} (hfn : nthO P.funcs.toList f = some fn) (hbody : fn.body = some code) (hname : (fn.name == "runtime.NumGoroutine") = false) {args : List AV} (hargs : args.length ≤ fn.ntmps) {u : U} {σ : Heap} {nx : Pos} {c : KR}
    (h : env0 args .h .lf fun env => L.exec { fid := f, rnd := none } code env (.mk [] u σ nx) fun e env w => endMode e fun m =>
      W.rec (motive := fun _ => Prop) (fun dfs u σ nx => leave L dfs m σ nx fun m σ nx => finK P (maskOf P f) fn env u m σ nx c) w) :
    ∃ r u' σ' nx', c r u' σ' nx' ∧ CallOk P f args u σ nx r u' σ' nx' := by
  have hf : P.funcs[f]? = some fn := by rw [nthO_spec] at hfn; simpa using hfn
  obtain ⟨env, h1, henv⟩ := env0_spec args .h .lf h
  obtain ⟨e, env1, dfs1, u1, σ1, nx1, h2, h3, _⟩ := hL.exec _ _ _ _ _ _ _ _ h1
  have h2' : ∃ m, leave L dfs1 m σ1 nx1 (fun m σ nx => finK P (maskOf P f) fn env1 u1 m σ nx c) ∧ ((m = none ∧ (e = .normal ∨ e = .ret)) ∨ ∃ ch, m = some ch ∧ e = .panic ch) := by
    cases e with
    | normal => exact ⟨none, h2, .inl ⟨rfl, .inl rfl⟩⟩
    | ret => exact ⟨none, h2, .inl ⟨rfl, .inr rfl⟩⟩
    | panic ch => exact ⟨some ch, h2, .inr ⟨ch, rfl, rfl⟩⟩
    | exit id => exact h2.elim
  obtain ⟨m, h4, hme⟩ := h2'
  obtain ⟨m', σ', nx', h5, h6⟩ := leave_sound hL _ _ _ _ h4
  have h7 : ∃ r, c r u1 σ' nx' ∧ ((∃ v, r = .ret v ∧ m' = none ∧ ∀ β w tmps, Rel (maskOf P) (ntmpsOf P) β (hof σ') w → EnvR β (maskOf P f) .nil env1 tmps → ∃ v', VR β v v' ∧ (results fn tmps).run P w = .ok v' w) ∨ ∃ ch, r = .pan ch ∧ m' = some ch) := by
    cases m' with
    | none =>
      obtain ⟨v, q1, q2⟩ := finK_spec (mk := maskOf P) (nt := ntmpsOf P) (c := fun v => c (.ret v) u1 σ' nx') h5
      exact ⟨_, q1, .inl ⟨v, rfl, rfl, q2⟩⟩
    | some ch => exact ⟨_, h5, .inr ⟨ch, rfl, rfl⟩⟩
  obtain ⟨r, h8, h9⟩ := h7
  refine ⟨r, u1, σ', nx', h8, Nat.le_trans h3.1 h6.1, fun β w args' kind md cs0 hva R hu hfree => ?_⟩
  have hal := hva.length
  let b : Frame := Frame.enter P f ⟨args'⟩ kind
  let a0 : Act := ⟨b.tmps, []⟩
  have hbat : b.atR a0 [.code code] = b := by
    simp only [b, a0, Frame.atR, Frame.enter, hf, Option.map_some, Option.bind_some, Option.getD_some, hbody]
  have htm : b.tmps = ⟨args'⟩ ++ Array.replicate (fn.ntmps - args'.length) undef := by
    simp [b, Frame.enter, hf]
  have hst : StR P { fid := f, rnd := none } ⟨.nil, env, [], u, σ, nx⟩ β b a0 md cs0 w := by
    refine ⟨rfl, rfl, hu, ?_, ?_, .nil, R⟩
    · intro t v hv
      unfold look at hv
      by_cases hbit : bit (maskOf P f) t = true
      · rw [if_pos hbit, henv, Pos.toNat_ofNat] at hv
        have h0 : Pos.toNat .h = 0 := rfl
        simp only [h0, Nat.zero_le, true_and, Nat.zero_add, Nat.sub_zero, T.get_lf] at hv
        by_cases hlt : t < args.length
        · rw [if_pos hlt] at hv
          obtain ⟨v', q1, q2⟩ := hva.get hv
          refine ⟨v', ?_, q2⟩
          show b.tmps[t]? = _
          rw [htm, Array.getElem?_append_left (by simp; omega)]
          simpa using q1
        · rw [if_neg hlt] at hv; cases hv
      · rw [if_neg hbit] at hv; simp [Loc.get] at hv
    · show b.tmps.size = ntmpsOf P f
      rw [htm, ntmpsOf_eq hfn]
      simp; omega
  obtain ⟨β1, a1, md1, w1, q1, q2, q3⟩ := h3.2 β b a0 md cs0 w [] hst (hfree.left h6.1)
  -- to the end of the body
  have q4 : ∃ todo mode, Steps P (lone b (withMode md cs0) w) (lone { b.atR a1 todo with mode := mode } (withMode md1 cs0) w1) ∧ ModeR β1 m mode := by
    rw [hbat] at q1
    have hro : b.roundOf = none := rfl
    rcases hme with ⟨rfl, rfl | rfl⟩ | ⟨ch, rfl, rfl⟩
    · exact ⟨[], .returning, Steps.trans q1 (.one (stepR_end hro)), rfl⟩
    · obtain ⟨k2, q1⟩ := q1
      exact ⟨_, .returning, Steps.trans q1 (.one (stepR_ret hro)), rfl⟩
    · obtain ⟨todo, ch', z1, z2⟩ := q1
      exact ⟨todo, .panicking ch', z2, ch', rfl, z1⟩
  obtain ⟨todo, mode, q5, q6⟩ := q4
  obtain ⟨β2, md2, w2, z1, z2, z3, z4⟩ := h6.2 β1 { b.atR a1 todo with mode := mode } (withMode md1 cs0) w1 q6 q2.dfs q2.rel (hfree.right q3)
  have hb2 := z4.mono (hfree.right q3)
  refine ⟨β2, md1, w2, z3, q2.u.mono hb2, q3.trans z4, .inr ⟨callFunc_enter hf hbody hname, _, q5.trans z1, rfl, rfl, rfl, fn, hf, ?_⟩⟩
  rcases h9 with ⟨v, rfl, rfl, hres⟩ | ⟨ch, rfl, rfl⟩
  · obtain ⟨v', y1, y2⟩ := hres β2 w2 a1.tmps z3 (q2.env.mono hb2)
    exact ⟨z2, v', y1, y2⟩
  · obtain ⟨ch', y1, y2⟩ := z2
    exact ⟨ch', y2, y1⟩
end
end Go.AE
namespace Go.AE
open Go

section
variable {P : Program} {L : Lv}

theorem bind_spec {m : Nat} : ∀ (ps : List Tmp) (vs : List AV) (e : Env) {c : Env → Prop}, bindParams ps vs e c →
    ∃ e', c e' ∧ ps.length = vs.length ∧ ∀ β (tmps : Array Value) (vs' : List Value), EnvR β m .nil e tmps → VRs β vs vs' → (∀ t ∈ ps, t < tmps.size) →
      EnvR β m .nil e' ((ps.zip vs').foldl (fun (tmps : Array Value) (p : Tmp × Value) => tmps.setIfInBounds p.1 p.2) tmps)
  | [], [], e, c, h => ⟨e, h, rfl, fun β tmps vs' he hv _ => by simpa using he⟩
  | [], _ :: _, e, c, h => h.elim
  | p :: ps, [], e, c, h => h.elim
  | p :: ps, v :: vs, e, c, h => by
    have h' : T.set (Pos.ofNat p) e (some v) fun e => bindParams ps vs e c := h
    obtain ⟨e1, h1, h2⟩ := T.set_spec _ _ _ _ h'
    obtain ⟨e2, h3, h4, h5⟩ := bind_spec (m := m) ps vs e1 h1
    refine ⟨e2, h3, by simp [h4], fun β tmps vs' he hv hp => ?_⟩
    cases hv with
    | cons _ v' _ l' hv hs =>
      simp only [List.zip_cons_cons, List.foldl_cons]
      have hlt := hp p (by simp)
      refine h5 β (tmps.setIfInBounds p v') l' ?_ hs (fun t ht => by simpa using hp t (by simp [ht]))
      intro t x hx
      unfold look at hx
      by_cases hb : bit m t = true
      · rw [if_pos hb, h2] at hx
        by_cases ht : t = p
        · subst ht
          rw [if_pos rfl] at hx
          simp only [Option.some.injEq] at hx
          subst hx
          exact ⟨v', by simp [hlt], hv⟩
        · have hne : ¬ Pos.ofNat t = Pos.ofNat p := fun h => ht (Pos.ofNat_inj h)
          rw [if_neg hne] at hx
          obtain ⟨x', q1, q2⟩ := he t x (by unfold look; rw [if_pos hb]; exact hx)
          refine ⟨x', ?_, q2⟩
          rw [Array.getElem?_setIfInBounds, if_neg (fun h => ht h.symm)]
          exact q1
      · rw [if_neg hb] at hx; simp [Loc.get] at hx
theorem fold_size : ∀ (ps : List (Tmp × Value)) (tmps : Array Value), (ps.foldl (fun (tmps : Array Value) (p : Tmp × Value) => tmps.setIfInBounds p.1 p.2) tmps).size = tmps.size
  | [], tmps => rfl
  | p :: ps, tmps => by simp only [List.foldl_cons]; rw [fold_size ps]; simp

/-- a loop's object is changed in its state alone -/
theorem loop_set {β : Be} {h : HO} {w : World} (R : Rel (maskOf P) (ntmpsOf P) β h w) {l : Pos} {lo : LoopObj} (hl : h l = some (.loop lo)) {bl : Nat} {x : Nat × Nat} (hb : β l = some (bl, x)) :
    ∃ r : Loop, w.heap[bl]? = some (.loop r) ∧ lo.state = r.state ∧ lo.pending = r.pending ∧ lo.fid = r.fn ∧ EnvR β (maskOf P lo.fid) .nil lo.env r.tmps ∧ r.tmps.size = ntmpsOf P lo.fid ∧ lo.params = r.params.toList ∧
      (∀ t ∈ lo.params, t < ntmpsOf P lo.fid) ∧ lo.assign = r.assign ∧ lo.body = r.body ∧
      ∀ (st : LoopState) (pd : Option Code), (setObj bl (.loop { r with state := st, pending := pd })).run P w = .ok () { w with heap := w.heap.setIfInBounds bl (.loop { r with state := st, pending := pd }) } ∧
        Rel (maskOf P) (ntmpsOf P) β (upd h l (some (.loop { lo with state := st, pending := pd }))) { w with heap := w.heap.setIfInBounds bl (.loop { r with state := st, pending := pd }) } ∧
        ∀ nx, Fr β h w nx β (upd h l (some (.loop { lo with state := st, pending := pd }))) { w with heap := w.heap.setIfInBounds bl (.loop { r with state := st, pending := pd }) } nx := by
  obtain ⟨r, q1, q2, q3, q4, q5, q6, q7, q8, q9, q10, y, q11⟩ := R.obj l _ _ hl hb
  simp only at q1
  refine ⟨r, q1, q2, q3, q4, q5, q6, q7, q8, q9, q10, fun st pd => ?_⟩
  have hbs : bl < w.heap.size := (Array.getElem?_eq_some_iff.1 q1).1
  have hoth : ∀ b', b' ≠ bl → ({ w with heap := w.heap.setIfInBounds bl (.loop { r with state := st, pending := pd }) } : World).heap[b']? = w.heap[b']? := by
    intro b' hne
    simp only [Array.getElem?_setIfInBounds]
    rw [if_neg (fun h => hne h.symm)]
  refine ⟨by simp [setObj, Sem.run, q1], set_rel R hl hb (by simp) ⟨{ r with state := st, pending := pd }, by simp [hbs], rfl, rfl, q4, q5, q6, q7, q8, q9, q10, y, q11⟩ hoth, fun nx => set_fr hl hb (R.ge hl hb (by simp)) (by simp) hoth rfl rfl rfl⟩

theorem yield_sound (hL : LvOk P L) (l : Pos) (args : List AV) (σ : Heap) (nx : Pos) (c : AV → Heap → Pos → Prop) (h : yieldF L l args σ nx c) : ∃ v σ' nx', c v σ' nx' ∧ YieldOk P l args σ nx v σ' nx' := by
  unfold yieldF at h
  obtain ⟨o, ho, h1⟩ := withObj_spec h
  rcases o with _ | _ | lo | _ | _ | _ <;> (try exact h1.elim)
  obtain ⟨env, h2, hlen, hbind⟩ := bind_spec (m := maskOf P lo.fid) lo.params args lo.env h1
  obtain ⟨e, env1, dfs1, u1, σ1, nx1, h3, h4, _⟩ := hL.exec _ _ _ _ _ _ _ _ h2
  cases e <;> (try exact h3.elim)
  have h3' : beginRoundK l (.mk dfs1 u1 σ1 nx1) fun w => L.exec { fid := lo.fid, rnd := some l } lo.body env1 w fun e _ w => endJump e fun j => endRoundK l j w c := h3
  obtain ⟨o2, ho2, h5⟩ := withObj_spec (show withObj σ1 l _ from h3')
  rcases o2 with _ | _ | lo2 | _ | _ <;> (try exact h5.elim)
  have h5' : lo2.state = .ready ∧ T.set l σ1 (some (.loop { lo2 with state := .busy })) fun σ => L.exec { fid := lo.fid, rnd := some l } lo.body env1 (.mk dfs1 u1 σ nx1) fun e _ w => endJump e fun j => endRoundK l j w c := by
    cases hst : lo2.state <;> simp only [hst] at h5 <;> first | exact ⟨rfl, h5⟩ | exact h5.elim
  obtain ⟨hready, h6⟩ := h5'
  obtain ⟨σ2, h7, hσ2⟩ := set_spec h6
  obtain ⟨e2, env2, dfs2, u2, σ3, nx2, h8, h9, _⟩ := hL.exec _ _ _ _ _ _ _ _ h7
  have h10 : ∃ j, ((e2 = .normal ∧ j = none) ∨ (e2 = .ret ∧ j = some .ret) ∨ ∃ id, e2 = .exit id ∧ j = some (.exit id)) ∧ endRoundK l j (.mk dfs2 u2 σ3 nx2) c := by
    cases e2 with
    | normal => exact ⟨none, .inl ⟨rfl, rfl⟩, h8⟩
    | ret => exact ⟨_, .inr (.inl ⟨rfl, rfl⟩), h8⟩
    | exit id => exact ⟨_, .inr (.inr ⟨id, rfl, rfl⟩), h8⟩
    | panic ch => exact h8.elim
  obtain ⟨j, hj, h11⟩ := h10
  obtain ⟨o3, ho3, h12⟩ := withObj_spec (show withObj σ3 l _ from h11)
  rcases o3 with _ | _ | lo3 | _ | _ <;> (try exact h12.elim)
  have h13 : dfs2 = [] ∧ ∃ st, st = (if j.isNone then LoopState.ready else LoopState.done) ∧ T.set l σ3 (some (.loop { lo3 with state := st, pending := j })) fun σ => c (.bool j.isNone) σ nx2 := by
    cases dfs2 with
    | nil => cases j <;> exact ⟨rfl, _, rfl, h12⟩
    | cons d ds => exact h12.elim
  obtain ⟨rfl, st, hst, h14⟩ := h13
  obtain ⟨σ4, h16, hσ4⟩ := set_spec h14
  refine ⟨_, σ4, nx2, h16, Nat.le_trans h4.1 h9.1, fun β w args' bl x cf cs hbl hva R hfree => ?_⟩
  obtain ⟨r, q1, _, _, q4, q5, q6, q7, q8, q9, q10, _⟩ := loop_set R ho hbl
  let tmps' : Array Value := (lo.params.zip args').foldl (fun (tmps : Array Value) (p : Tmp × Value) => tmps.setIfInBounds p.1 p.2) r.tmps
  have hpar : r.params = lo.params.toArray := by apply Array.ext'; rw [q7]
  have hrun : (Instr.yield bl ⟨args'⟩).run P w = .ok (.round bl lo.fid tmps' lo.assign lo.body) w := by
    have hsz : args'.length = lo.params.length := by rw [hlen, hva.length]
    simp [Instr.yield, Instr.getLoop, getObj, Sem.run, q1, hpar, hsz, tmps', q4, q9, q10]
  let a0 : Act := ⟨tmps', []⟩
  have hst0 : ∀ cs0, StR P { fid := lo.fid, rnd := some l } ⟨.nil, env, [], none, σ, nx⟩ β (Frame.round bl lo.fid tmps' lo.assign lo.body .normal) a0 none cs0 w := by
    intro cs0
    refine ⟨rfl, ⟨bl, x, rfl, hbl⟩, ⟨rfl, rfl⟩, ?_, ?_, .nil, R⟩
    · exact hbind β r.tmps args' q5 hva (fun t ht => by rw [q6]; exact q8 t ht)
    · show tmps'.size = _
      rw [fold_size]; exact q6
  obtain ⟨β1, a1, md1, w1, s1, s2, s3⟩ := h4.2 β _ a0 none (cf :: cs) w [.beginRound, .code lo.body] (hst0 (cf :: cs)) (hfree.left h9.1)
  have hb1 := s3.mono (hfree.left h9.1)
  have hbl1 := hb1 _ _ hbl
  obtain ⟨r2, y1, y2, y3, _, _, _, _, _, _, _, yset⟩ := loop_set s2.rel ho2 hbl1
  obtain ⟨z1, z2, z3⟩ := yset .busy lo2.pending
  have z3 := z3 nx1
  have he2 : ({ lo2 with state := .busy, pending := lo2.pending } : LoopObj) = { lo2 with state := .busy } := rfl
  rw [he2, ← hσ2] at z2 z3
  have hr2 : r2.state = .ready := by rw [← y2, hready]
  have hbegin : (Instr.beginRound bl).run P w1 = .ok () { w1 with heap := w1.heap.setIfInBounds bl (.loop { r2 with state := .busy, pending := lo2.pending }) } := by
    have hget : (getObj bl).run P w1 = .ok (.loop r2) w1 := by simp [getObj, Sem.run, y1]
    rw [y3] at z1 ⊢
    have z1' : (setObj bl (.loop { r2 with state := .busy })).run P w1 = .ok () { w1 with heap := w1.heap.setIfInBounds bl (.loop { r2 with state := .busy }) } := z1
    simp only [Instr.beginRound, Instr.getLoop, Sem.run_bind, hget, Result.andThen_ok, Sem.run_pure, z1', hr2]
  have hu1 : md1 = none := by
    have := s2.u
    cases u1 with
    | none => exact this.2
    | some mo => exact absurd this.1 (by simp [Frame.round])
  subst hu1
  have t1 := stepR_beginRound (P := P) (b := Frame.round bl lo.fid tmps' lo.assign lo.body .normal) (a := a1) (k := [.code lo.body]) (cs := withMode none (cf :: cs)) (l := bl) rfl hbegin
  have hst1 : StR P { fid := lo.fid, rnd := some l } ⟨.nil, env1, dfs1, u1, σ2, nx1⟩ β1 (Frame.round bl lo.fid tmps' lo.assign lo.body .normal) a1 none (cf :: cs) { w1 with heap := w1.heap.setIfInBounds bl (.loop { r2 with state := .busy, pending := lo2.pending }) } :=
    ⟨s2.fn, s2.rnd, s2.u, s2.env, s2.size, s2.dfs, z2⟩
  have F1 := s3.trans z3
  obtain ⟨β3, a3, md3, w3, v1, v2, v3⟩ := h9.2 β1 _ a1 none (cf :: cs) _ [] hst1 (hfree.right F1)
  have hb3 := v3.mono (hfree.right F1)
  have hbl3 := hb3 _ _ hbl1
  have hu3 : md3 = none := by
    have := v2.u
    cases u2 with
    | none => exact this.2
    | some mo => exact absurd this.1 (by simp [Frame.round])
  subst hu3
  obtain ⟨r4, x1, x2, x3, _, _, _, _, _, _, _, xset⟩ := loop_set v2.rel ho3 hbl3
  obtain ⟨p1, p2, p3⟩ := xset st j
  have p3 := p3 nx2
  rw [← hσ4] at p2 p3
  have hend : (Instr.endRound bl j).run P w3 = .ok (.bool j.isNone) { w3 with heap := w3.heap.setIfInBounds bl (.loop { r4 with state := st, pending := j }) } := by
    have hget : (getObj bl).run P w3 = .ok (.loop r4) w3 := by simp [getObj, Sem.run, x1]
    rw [hst] at p1 ⊢
    simp only [Instr.endRound, Instr.getLoop, Sem.run_bind, hget, Result.andThen_ok, Sem.run_pure, p1]
  refine ⟨β3, _, .bool j.isNone, p2, F1.trans (v3.trans p3), .bool _, lo.fid, tmps', lo.assign, lo.body, hrun, ?_⟩
  have first : Steps P (lone (Frame.round bl lo.fid tmps' lo.assign lo.body .normal) (cf :: cs) w) _ := Steps.trans s1 (.one t1)
  refine first.trans ?_
  rcases hj with ⟨rfl, rfl⟩ | ⟨rfl, rfl⟩ | ⟨id, rfl, rfl⟩
  · exact Steps.trans v1 (.one (stepR_round_end (b := Frame.round bl lo.fid tmps' lo.assign lo.body .normal) rfl rfl hend))
  · obtain ⟨k2, v1⟩ := v1
    exact Steps.trans v1 (.one (stepR_round_ret (b := Frame.round bl lo.fid tmps' lo.assign lo.body .normal) rfl rfl hend))
  · obtain ⟨k2, hk2, v1⟩ := v1
    exact Steps.trans v1 (.one (stepR_round_exit (b := Frame.round bl lo.fid tmps' lo.assign lo.body .normal) rfl rfl (by rw [hk2]; rfl) hend))
end
end Go.AE
namespace Go.AE
open Go

section
variable {P : Program}

/-- what the program's functions without a body are -/
def ExtOk (P : Program) : Prop := ∀ f fn, nthO P.funcs.toList f = some fn → fn.body = none → isIndexByte fn = true → ∀ args w, (callFunc f args).run P w = (do pure (Next.value (← Extern.BytealgIndexByte.indexByte args)) : Sem Next).run P w

theorem idxByte_spec (b : Nat) : ∀ (l : List Nat) (i : Nat) {c : Int → Prop}, idxByte b l i c →
    ∃ r, c r ∧ ((∃ j : Nat, l[j]? = some b ∧ (∀ k : Nat, k < j → l[k]? ≠ some b) ∧ r = ((i + j : Nat) : Int)) ∨ ((∀ k : Nat, l[k]? ≠ some b) ∧ r = -1))
  | [], i, c, h => ⟨-1, h, .inr ⟨by simp, rfl⟩⟩
  | x :: l, i, c, h => by
    have h' : ite' (Nat.beq x b) (c (.ofNat i)) (idxByte b l (Nat.succ i) c) := h
    rw [ite'_eq, beq_dec] at h'
    by_cases hx : x = b
    · simp only [hx, decide_true, if_true] at h'
      exact ⟨_, h', .inl ⟨0, by simp [hx], by simp, by simp⟩⟩
    · simp only [hx, decide_false, Bool.false_eq_true, if_false] at h'
      obtain ⟨r, h1, h2⟩ := idxByte_spec b l (i + 1) h'
      refine ⟨r, h1, ?_⟩
      rcases h2 with ⟨j, h3, h4, h5⟩ | ⟨h3, h4⟩
      · refine .inl ⟨j + 1, by simpa using h3, ?_, by rw [h5]; congr 1; omega⟩
        intro k hk
        cases k with
        | zero => simp [hx]
        | succ k => simpa using h4 k (by omega)
      · refine .inr ⟨?_, h4⟩
        intro k
        cases k with
        | zero => simp [hx]
        | succ k => simpa using h3 k
theorem lv_sound (hD : DrawOk P) (hR : RangeOk P) (hC : ∀ L, LvOk P L → ∀ f args u σ nx c, callF P L f args u σ nx c → ∃ r u' σ' nx', c r u' σ' nx' ∧ CallOk P f args u σ nx r u' σ' nx') : ∀ n, LvOk P (lv P n)
  | 0 => ⟨fun _ _ _ _ _ _ _ _ h => h.elim, fun _ _ _ _ _ _ h => h.elim, fun _ _ _ _ _ h => h.elim⟩
  | n + 1 => by
    have ih := lv_sound hD hR hC n
    exact ⟨fun fi code env dfs u σ nx K h => exec_sound' hD hR ih fi code env dfs u σ nx K h, fun f args u σ nx c h => hC _ ih f args u σ nx c h, fun l args σ nx c h => yield_sound ih l args σ nx c h⟩
end
end Go.AE
namespace Go.AE
open Go

section
variable {P : Program}
theorem ext_call (hE : ExtOk P) {f : FuncId} {fn : Func} (hfn : nthO P.funcs.toList f = some fn) (hb : fn.body = none) {args : List AV} {u : U} {σ : Heap} {nx : Pos} {c : KR} (h : externK fn args fun v => c (.ret v) u σ nx) :
    ∃ r u' σ' nx', c r u' σ' nx' ∧ CallOk P f args u σ nx r u' σ' nx' := by
  unfold externK at h
  obtain ⟨hi, h1⟩ := ite'_true h
  have h2 : ∃ s b, args = [.str s, .int .u8 (.ofNat b)] ∧ ite' (Nat.blt b 256) (idxByte b s 0 fun i => c (.ret (.int .i64 i)) u σ nx) False := by
    split at h1
    · exact ⟨_, _, rfl, h1⟩
    · exact h1.elim
  obtain ⟨s, b, rfl, h3⟩ := h2
  obtain ⟨hb256, h4⟩ := ite'_true h3
  rw [blt_iff, decide_eq_true_eq] at hb256
  obtain ⟨r, h5, h6⟩ := idxByte_spec b s 0 h4
  refine ⟨_, u, σ, nx, h5, Nat.le_refl _, fun β w args' kind md cs0 hva R hu hf => ?_⟩
  refine ⟨β, md, w, R, hu, Fr.refl _ _ _ _, .inl ⟨_, .int .i64 r, rfl, .int _ _, ?_, rfl⟩⟩
  rw [hE f fn hfn hb hi]
  cases hva with
  | cons _ v1 _ l1 hv1 hs1 =>
    obtain ⟨v2, rfl, hv2⟩ := hs1.one_inv
    obtain ⟨bs, rfl, rfl⟩ := hv1.str_inv
    rw [hv2.int_inv]
    have hbb : ∀ k : Nat, (bs.data.toList.map UInt8.toNat)[k]? = some b ↔ (k < bs.size ∧ (bs[k]! == b.toUInt8) = true) := by
      intro k
      have hds : bs.data.size = bs.size := rfl
      by_cases hk : k < bs.size
      · have h1 : bs.data[k]? = some bs.data[k] := by simp [hds, hk]
        have h2 : bs[k]! = bs.data[k] := by
          rw [getElem!_pos bs k hk]; rfl
        rw [List.getElem?_map, Array.getElem?_toList, h1, h2]
        simp only [Option.map_some, Option.some.injEq, hk, true_and, beq_iff_eq]
        constructor
        · intro h; rw [← h]; simp
        · intro h; rw [h]; simp; omega
      · rw [List.getElem?_map, Array.getElem?_toList]
        simp [hds, hk]
    have hfind : (List.range bs.size).find? (fun i => bs[i]! == b.toUInt8) = (match r with | .ofNat j => some j | .negSucc _ => none) := by
      rcases h6 with ⟨j, g1, g2, rfl⟩ | ⟨g1, rfl⟩
      · have hj := (hbb j).1 g1
        show _ = (match ((0 + j : Nat) : Int) with | .ofNat j => some j | .negSucc _ => none)
        rw [Nat.zero_add]
        show _ = some j
        rw [List.find?_range_eq_some]
        refine ⟨hj.2, by simpa using hj.1, fun k hk => ?_⟩
        have := g2 k hk
        rw [Ne, hbb k] at this
        have hk2 : k < bs.size := by omega
        simpa [hk2] using this
      · show _ = none
        rw [List.find?_eq_none]
        intro k hk
        have := g1 k
        rw [Ne, hbb k] at this
        have hk2 : k < bs.size := by simpa using hk
        simpa [hk2] using this
    have hr : (Extern.BytealgIndexByte.indexByte ⟨[.string bs, .int .u8 (.ofNat b)]⟩).run P w = .ok (.int .i64 r) w := by
      show (do let b' ← Extern.Bytes.bytesOf (.string bs); let c ← Extern.Bytes.asByte (.int .u8 (.ofNat b)); (match (List.range b'.size).find? fun i => b'[i]! == c with | some i => pure (goInt i) | none => pure (goInt (-1)) : Sem Value) : Sem Value).run P w = _
      simp only [Extern.Bytes.bytesOf, Extern.Bytes.asByte, Sem.run_bind, Sem.run_pure, Result.andThen_ok]
      have ht : (Int.ofNat b).toNat.toUInt8 = b.toUInt8 := rfl
      rw [ht, hfind]
      rcases h6 with ⟨j, g1, g2, rfl⟩ | ⟨g1, rfl⟩
      · rfl
      · rfl
    simp only [Sem.run_bind, hr, Result.andThen_ok]
    rfl

theorem call_sound (hE : ExtOk P) (L : Lv) (hL : LvOk P L) (f : FuncId) (args : List AV) (u : U) (σ : Heap) (nx : Pos) (c : KR) (h : callF P L f args u σ nx c) : ∃ r u' σ' nx', c r u' σ' nx' ∧ CallOk P f args u σ nx r u' σ' nx' := by
  unfold callF at h
  cases hfn : nthO P.funcs.toList f with
  | none => rw [hfn] at h; exact h.elim
  | some fn =>
    rw [hfn] at h
    simp only at h
    cases hb : fn.body with
    | none => rw [hb] at h; exact ext_call hE hfn hb h
    | some code =>
      rw [hb] at h
      obtain ⟨hq, h1⟩ := ite'_true h
      simp only [Bool.and_eq_true, ble_iff, lenK_eq, decide_eq_true_eq, Bool.not_eq_true'] at hq
      exact call_body hL hfn hb hq.2 hq.1 h1
theorem lv_ok (hD : DrawOk P) (hR : RangeOk P) (hE : ExtOk P) (n : Nat) : LvOk P (lv P n) := lv_sound hD hR (fun L hL f args u σ nx c h => call_sound hE L hL f args u σ nx c h) n
end
end Go.AE
namespace Go.AE
open Go

section
variable {P : Program} {b : Frame} {a : Act} {k : List Item} {cs : List Frame} {w w1 w2 : World}

/-- a range over a function begins: its function is called -/
theorem stepR_rangeFunc {f : Operand} {params : Array Tmp} {assign body : Code} {l : Nat} {mark : List Deferred} (h1 : (Instr.enterLoop b.fn a.tmps params assign body b.roundOf).run P w = .ok (l, mark) w1) {g : FuncId} {args : Array Value}
    (h2 : (do let d ← resolve a.eval { callee := .value f, args := #[.const (.func (.yield l) #[] #[])], argTypes := #[] } 0; invoke d.target d.args : Sem Next).run P w1 = .ok (.enter g args) w2) :
    step P (lone (b.atR a (.code (.rangeFunc f params assign body) :: k)) cs w) = .next (lone (Frame.enter P g args .normal) (b.atR { a with defers := mark ++ a.defers } (.inRangeFunc l :: k) :: cs) w2) := by
  refine step_lone_go ?_
  have he : (b.atR { a with defers := mark ++ a.defers } (.inRangeFunc l :: k)).eval = a.eval := Frame.eval_atR _ _ _
  simp only [Frame.atR] at he
  simp [stepG, stepG.exec, Frame.atR, Sem.runT_eq, h1, stepG.apply, he, h2]
theorem stepR_endRange {l : Nat} {jump : Option Code} (h : (Instr.endLoop l).run P w = .ok jump w1) :
    step P (lone (b.atR a (.endRangeFunc l :: k)) cs w) = .next (lone (b.atR a ((jump.map Item.code).toList ++ k)) cs w1) :=
  step_lone_go (by simp [stepG, stepG.exec, Frame.atR, Sem.runT_eq, h])
theorem finish_range {l : Nat} {v : Value} : (b.atR a (.inRangeFunc l :: k)).finish v = b.atR a (.endRangeFunc l :: k) := rfl
end
end Go.AE
namespace Go.AE
open Go

section
variable {P : Program}

theorem EnvR.any {β : Be} {m : Nat} {e : Env} {tmps : Array Value} (h : EnvR β m .nil e tmps) : EnvR β m .nil e tmps := h

/-- where a loop's deferred calls go -/
def EntOk (P : Program) (fi : FI) (s : St) (dblk : Pos) (s1 : St) : Prop :=
  s.nx.toNat ≤ s1.nx.toNat ∧ ∀ β b a md cs0 w, StR P fi s β b a md cs0 w → Free β s.nx s1.nx →
    ∃ β1 mark r y w1, (match b.roundOf with
        | some l => (do pure ((← Instr.getLoop l).defers, ([] : List Deferred)))
        | none => (do let r ← Go.newObj (.deferred (some [])); pure (r, [({ target := .collected r, args := #[] } : Deferred)])) : Sem (Nat × List Deferred)).run P w = .ok (r, mark) w1 ∧
      β1 dblk = some (r, y) ∧ StR P fi s1 β1 b { a with defers := mark ++ a.defers } md cs0 w1 ∧ Fr β (hof s.σ) w s.nx β1 (hof s1.σ) w1 s1.nx

theorem loopDefers_spec {fi : FI} {env : Env} {dfs : List DF} {u : U} {σ : Heap} {nx : Pos} {go : Pos → List DF → U → Heap → Pos → Prop} (h : loopDefers fi (.mk dfs u σ nx) go) :
    ∃ dblk dfs1 σ1 nx1, go dblk dfs1 u σ1 nx1 ∧ EntOk P fi ⟨.nil, env, dfs, u, σ, nx⟩ dblk ⟨.nil, env, dfs1, u, σ1, nx1⟩ := by
  obtain ⟨fid, rnd⟩ := fi
  cases rnd with
  | none =>
    have h' : T.set nx σ (some .dfr) fun σ => go nx (.coll nx :: dfs) u σ nx.succ := h
    obtain ⟨σ1, h1, h2⟩ := set_spec h'
    refine ⟨nx, _, σ1, _, h1, by show nx.toNat ≤ nx.succ.toNat; rw [Pos.toNat_succ]; omega, fun β b a md cs0 w hs hf => ?_⟩
    have hnx : β nx = none := hf nx (Nat.le_refl _) (by show nx.toNat < nx.succ.toNat; rw [Pos.toNat_succ]; omega)
    have G := Grown.push w (.deferred (some []))
    have R := grown_rel (tot := 0) (o := .dfr) hs.rel G hnx (show _ = _ by simp)
    have F := grown_fr (β := β) (h := hof σ) G (id := nx) (new_ge hs.rel.g0 hnx) (tot := 0) (o := .dfr)
    have hle := bset_le (x := (w.heap.size, 0, 0)) hnx
    rw [← h2] at R F
    refine ⟨_, [{ target := .collected w.heap.size, args := #[] }], w.heap.size, (0, 0), _, ?_, bset_same, ⟨hs.fn, hs.rnd, hs.u.mono hle, hs.env.mono hle, hs.size, .coll nx w.heap.size (0, 0) _ _ bset_same (hs.dfs.mono hle), R⟩, F⟩
    rw [show b.roundOf = none from hs.rnd]
    rfl
  | some l =>
    have h' : withObj σ l fun o => (match o with | .loop lo => go lo.defers dfs u σ nx | _ => False) := h
    obtain ⟨o, ho, h1⟩ := withObj_spec h'
    rcases o with _ | _ | lo | _ | _ | _ <;> (try exact h1.elim)
    refine ⟨lo.defers, dfs, σ, nx, h1, Nat.le_refl _, fun β b a md cs0 w hs hf => ?_⟩
    obtain ⟨bl, x, hb, hbl⟩ := hs.rnd
    obtain ⟨r, q1, _, _, _, _, _, _, _, _, _, y, q11⟩ := hs.rel.obj l _ _ ho hbl
    simp only at q1
    refine ⟨β, [], r.defers, y, w, ?_, q11, ?_, Fr.refl _ _ _ _⟩
    · rw [hb]; simp [Instr.getLoop, getObj, Sem.run, q1]
    · exact ⟨hs.fn, hs.rnd, hs.u, hs.env, hs.size, hs.dfs, hs.rel⟩
end
end Go.AE
namespace Go.AE
open Go

section
variable {P : Program}

/-- the end of a range over a function -/
theorem endLoop_sound {L : Lv} (hL : LvOk P L) {fi : FI} {l : Pos} {env : Env} {dfs : List DF} {u : U} {σ : Heap} {nx : Pos} {K : KX} (h : endLoopK L fi l env dfs u σ nx K) :
    ∃ e env' dfs' u' σ' nx', K e env' (.mk dfs' u' σ' nx') ∧ nx.toNat ≤ nx'.toNat ∧ ∀ β b a md cs0 w k bl x, β l = some (bl, x) → StR P fi ⟨.nil, env, dfs, u, σ, nx⟩ β b a md cs0 w → Free β nx nx' →
      ∃ β' a' md' w', ArrR P (lone (b.atR a (.endRangeFunc bl :: k)) (withMode md cs0) w) b k (withMode md' cs0) β' e a' w' ∧ StR P fi ⟨.nil, env', dfs', u', σ', nx'⟩ β' b a' md' cs0 w' ∧ Fr β (hof σ) w nx β' (hof σ') w' nx' := by
  obtain ⟨o, ho, h1⟩ := withObj_spec (show withObj σ l _ from h)
  rcases o with _ | _ | lo | _ | _ | _ <;> (try exact h1.elim)
  have h2 : lo.state ≠ .busy ∧ T.set l σ (some (.loop { lo with state := .exhausted })) fun σ => (match lo.pending with | none => K .normal env (.mk dfs u σ nx) | some c => L.exec fi c env (.mk dfs u σ nx) K) := by
    cases hs : lo.state <;> simp only [hs] at h1 <;> first | exact ⟨by simp, h1⟩ | exact h1.elim
  obtain ⟨hne, h3⟩ := h2
  obtain ⟨σ1, h4, hσ1⟩ := set_spec h3
  -- the loop's end, in the machine
  have mach : ∀ β b a md cs0 w bl x, β l = some (bl, x) → StR P fi ⟨.nil, env, dfs, u, σ, nx⟩ β b a md cs0 w → ∃ w1, (Instr.endLoop bl).run P w = .ok lo.pending w1 ∧ StR P fi ⟨.nil, env, dfs, u, σ1, nx⟩ β b a md cs0 w1 ∧ Fr β (hof σ) w nx β (hof σ1) w1 nx := by
    intro β b a md cs0 w bl x hbl hs
    obtain ⟨r, y1, y2, y3, _, _, _, _, _, _, _, yset⟩ := loop_set hs.rel ho hbl
    obtain ⟨z1, z2, z3⟩ := yset .exhausted lo.pending
    have z3 := z3 nx
    have he2 : ({ lo with state := .exhausted, pending := lo.pending } : LoopObj) = { lo with state := .exhausted } := rfl
    rw [he2, ← hσ1] at z2 z3
    refine ⟨_, ?_, ⟨hs.fn, hs.rnd, hs.u, hs.env, hs.size, hs.dfs, z2⟩, z3⟩
    have hget : (getObj bl).run P w = .ok (.loop r) w := by simp [getObj, Sem.run, y1]
    have hr : (r.state == LoopState.busy) = false := by
      rw [← y2]; exact beq_false_of_ne hne
    rw [y3] at z1 ⊢
    have z1' : (setObj bl (.loop { r with state := .exhausted })).run P w = .ok () { w with heap := w.heap.setIfInBounds bl (.loop { r with state := .exhausted }) } := z1
    simp only [Instr.endLoop, Instr.getLoop, Sem.run_bind, hget, Result.andThen_ok, Sem.run_pure, hr]
    simp only [Bool.false_eq_true, if_false, Sem.run_pure, Sem.run_bind, Result.andThen_ok, z1']
  cases hp : lo.pending with
  | none =>
    rw [hp] at h4
    refine ⟨.normal, env, dfs, u, σ1, nx, h4, Nat.le_refl _, fun β b a md cs0 w k bl x hbl hs hf => ?_⟩
    obtain ⟨w1, m1, m2, m3⟩ := mach β b a md cs0 w bl x hbl hs
    rw [hp] at m1
    exact ⟨β, a, md, w1, .one (stepR_endRange m1), m2, m3⟩
  | some cd =>
    rw [hp] at h4
    obtain ⟨e, env', dfs', u', σ', nx', h5, h6, _⟩ := hL.exec fi cd env dfs u σ1 nx _ h4
    refine ⟨e, env', dfs', u', σ', nx', h5, h6.1, fun β b a md cs0 w k bl x hbl hs hf => ?_⟩
    obtain ⟨w1, m1, m2, m3⟩ := mach β b a md cs0 w bl x hbl hs
    rw [hp] at m1
    obtain ⟨β', a', md', w', q1, q2, q3⟩ := h6.2 β b a md cs0 w1 k m2 (hf.right m3)
    exact ⟨β', a', md', w', .of_steps (.one (stepR_endRange m1)) q1, q2, m3.trans q3⟩
end
end Go.AE
namespace Go.AE
open Go

section
variable {P : Program} {b : Frame} {a : Act} {k : List Item} {cs : List Frame} {w w1 w2 : World}

theorem stepR_rangeFuncV {f : Operand} {params : Array Tmp} {assign body : Code} {l : Nat} {mark : List Deferred} (h1 : (Instr.enterLoop b.fn a.tmps params assign body b.roundOf).run P w = .ok (l, mark) w1) {v : Value}
    (h2 : (do let d ← resolve a.eval { callee := .value f, args := #[.const (.func (.yield l) #[] #[])], argTypes := #[] } 0; invoke d.target d.args : Sem Next).run P w1 = .ok (.value v) w2) :
    step P (lone (b.atR a (.code (.rangeFunc f params assign body) :: k)) cs w) = .next (lone (b.atR { a with defers := mark ++ a.defers } (.endRangeFunc l :: k)) cs w2) := by
  refine step_lone_go ?_
  have he : (b.atR { a with defers := mark ++ a.defers } (.inRangeFunc l :: k)).eval = a.eval := Frame.eval_atR _ _ _
  simp only [Frame.atR] at he
  simp [stepG, stepG.exec, Frame.atR, Sem.runT_eq, h1, stepG.apply, he, h2, Frame.finish]

theorem enter_run {α : Type} {x : Sem α} {f : α → Sem (Nat × List Deferred)} {fn : FuncId} {tmps : Array Value} {params : Array Tmp} {assign body : Code} {rr : Nat} {mark : List Deferred}
    (h : (x >>= f).run P w = .ok (rr, mark) w1) :
    (x >>= fun r => f r >>= fun p => (match p with | (defers, mark) => (do pure (← Go.newObj (.loop { state := .ready, pending := none, fn, tmps, params, assign, body, defers }), mark) : Sem (Nat × List Deferred)))).run P w
      = .ok (w1.heap.size, mark) { w1 with heap := w1.heap.push (.loop { state := .ready, pending := none, fn, tmps, params, assign, body, defers := rr }) } := by
  rw [Sem.run_bind] at h ⊢
  cases hx : x.run P w <;> rw [hx] at h <;> simp only [Result.andThen] at h ⊢ <;> (try cases h)
  rw [Sem.run_bind, h]
  rfl

theorem range_ok : RangeOk P := by
  intro L hL fi f params assign body env dfs u σ nx K h
  obtain ⟨hp, h1⟩ := ite'_true (show ite' (params.toList.all fun t => Nat.blt t (ntmpsOf P fi.fid)) _ False from h)
  obtain ⟨fv, h2, hf⟩ := get_spec (maskOf P fi.fid) .nil env f h1
  obtain ⟨dblk, dfs1, σ1, l, h3, h4⟩ := loopDefers_spec (P := P) (env := env) h2
  obtain ⟨σ2, h5, hσ2⟩ := set_spec h3
  cases fv <;> (try exact h5.elim)
  rename_i fn first cap
  cases fn <;> (try exact h5.elim)
  rename_i g
  obtain ⟨r, u2, σ3, nx3, h6, h7⟩ := hL.call _ _ _ _ _ _ h5
  cases r with
  | pan ch => exact h6.elim
  | ret v =>
    obtain ⟨e, env', dfs', u', σ', nx', h8, h9, h10⟩ := endLoop_sound (P := P) hL h6
    have hls : l.succ.toNat = l.toNat + 1 := Pos.toNat_succ l
    have hle1 : nx.toNat ≤ l.toNat := h4.1
    have hle2 : l.succ.toNat ≤ nx3.toNat := h7.1
    refine ⟨e, env', dfs', u', σ', nx', h8, by show nx.toNat ≤ nx'.toNat; omega, fun β b a md cs0 w k hs hf0 => ?_⟩
    have hfree : Free β nx nx' := hf0
    obtain ⟨β1, mark, rr, y, w1, e1, e2, e3, e4⟩ := h4.2 β b a md cs0 w hs (hfree.left (by show l.toNat ≤ nx'.toNat; omega))
    have hfree1 : Free β1 l nx' := hfree.right e4
    have hl1 : β1 l = none := hfree1 l (Nat.le_refl _) (by omega)
    have hb1 := e4.mono (hfree.left (show l.toNat ≤ nx'.toNat by omega))
    -- the loop's object
    let lp : Loop := { state := .ready, pending := none, fn := b.fn, tmps := a.tmps, params, assign, body, defers := rr }
    have G := Grown.push w1 (.loop lp)
    have hle := bset_le (x := (w1.heap.size, 0, 0)) hl1
    have hob : ObjR (maskOf P) (ntmpsOf P) (bset β1 l (w1.heap.size, 0, 0)) (w1.heap.push (.loop lp)) w1.heap.size 0 0 (.loop { state := .ready, pending := none, fid := fi.fid, env, params := params.toList, assign, body, defers := dblk }) := by
      refine ⟨lp, by simp, rfl, rfl, e3.fn.symm, e3.env.mono hle, e3.size, rfl, ?_, rfl, rfl, y, hle _ _ e2⟩
      intro t ht
      have := List.all_eq_true.1 hp t ht
      simpa [blt_iff] using this
    have R2 := grown_rel e3.rel G hl1 hob
    have F2 := grown_fr (β := β1) (h := hof σ1) G (id := l) (new_ge e3.rel.g0 hl1) (tot := 0) (o := .loop { state := .ready, pending := none, fid := fi.fid, env, params := params.toList, assign, body, defers := dblk })
    rw [← hσ2] at R2 F2
    have hfree2 := hfree1.right F2
    have hent : (Instr.enterLoop b.fn a.tmps params assign body b.roundOf).run P w = .ok (w1.heap.size, mark) { w1 with heap := w1.heap.push (.loop lp) } := by
      revert e1
      unfold Instr.enterLoop
      cases b.roundOf with
      | none => intro e1; exact enter_run e1
      | some l0 => intro e1; exact enter_run e1
    -- the call
    obtain ⟨g', x', c', hg, hv, hx', hc'⟩ := (hf β a hs.rel.g0 (hs.env.opd f)).func_inv
    cases hg
    have hb2 : β.le (bset β1 l (w1.heap.size, 0, 0)) := fun id x h => hle _ _ (hb1 _ _ h)
    have hargs : VRs (bset β1 l (w1.heap.size, 0, 0)) (first ++ [.yld l] ++ cap) (x' ++ [.func (.yield w1.heap.size) #[] #[]] ++ c') :=
      ((hx'.mono hb2).append (.cons _ _ _ _ (.yld l w1.heap.size (0, 0) bset_same) .nil)).append (hc'.mono hb2)
    obtain ⟨β3, md3, w3, R3, U3, F3, hcase⟩ := h7.2 _ _ _ .normal none (b.atR { a with defers := mark ++ a.defers } (.inRangeFunc w1.heap.size :: k) :: withMode md cs0) hargs R2 ⟨rfl, rfl⟩ (hfree2.left h9)
    have hb3 := F3.mono (hfree2.left h9)
    have hinv : ∀ ww, (do let d ← resolve a.eval { callee := .value f, args := #[.const (.func (.yield w1.heap.size) #[] #[])], argTypes := #[] } 0; invoke d.target d.args : Sem Next).run P ww = (callFunc g ⟨x' ++ [.func (.yield w1.heap.size) #[] #[]] ++ c'⟩).run P ww := by
      intro ww
      have e1 : ((⟨x'⟩ : Array Value) ++ #[.func (.yield w1.heap.size) #[] #[]] ++ ⟨c'⟩ : Array Value) = ⟨x' ++ [.func (.yield w1.heap.size) #[] #[]] ++ c'⟩ := by apply Array.ext'; simp
      rw [← e1]
      simp only [resolve, hv, Deferred.ofValue]
      have e2 : Array.map a.eval #[Operand.const (Value.func (Fn.yield w1.heap.size) #[] #[])] = #[.func (.yield w1.heap.size) #[] #[]] := by simp [Act.eval]
      rw [e2]
      rfl
    have hs3 : StR P fi ⟨.nil, env, dfs1, u, σ3, nx3⟩ β3 b { a with defers := mark ++ a.defers } md cs0 w3 :=
      ⟨e3.fn, e3.rnd.mono (fun id x h => hb3 _ _ (hle _ _ h)), e3.u.mono (fun id x h => hb3 _ _ (hle _ _ h)), e3.env.mono (fun id x h => hb3 _ _ (hle _ _ h)), e3.size, e3.dfs.mono (fun id x h => hb3 _ _ (hle _ _ h)), R3⟩
    have F13 := (e4.trans F2).trans F3
    have hl3 : β3 l = some (w1.heap.size, 0, 0) := hb3 _ _ bset_same
    obtain ⟨β4, a4, md4, w4, q1, q2, q3⟩ := h10 β3 b { a with defers := mark ++ a.defers } md cs0 w3 k w1.heap.size (0, 0) hl3 hs3 (hfree.right F13)
    refine ⟨β4, a4, md4, w4, .of_steps ?_ q1, q2, F13.trans q3⟩
    rcases hcase with ⟨v0, v', hr, hvv, hrun, _⟩ | ⟨hrun, fr, hst, hend⟩
    · exact .one (stepR_rangeFuncV hent (by rw [hinv]; exact hrun))
    · have hmd : md3 = none := by
        cases u2 with
        | none => exact U3.2
        | some m => exact absurd U3.1 (by simp)
      subst hmd
      obtain ⟨z1, z2, z3, fn, z4, z5, v', hvv, z6⟩ := hend
      have st2 := step_leave_returned (c := b.atR { a with defers := mark ++ a.defers } (.inRangeFunc w1.heap.size :: k)) (cs := withMode md cs0) (⟨z5, z2, z3, fn, by rw [z1]; exact z4, z6⟩ : fr.leaving P w3 (.returned v'))
      rw [finish_range] at st2
      exact Steps.head (stepR_rangeFunc hent (by rw [hinv]; exact hrun)) (hst.trans (.one st2))
end
end Go.AE
namespace Go.AE
open Go

/-! ## a drawn region: what the text's order says of each operation -/
def res (β : Be) (lo hi : Nat) : Be := fun id => if lo ≤ id.toNat ∧ id.toNat < hi then none else β id
theorem res_some {β : Be} {lo hi : Nat} {id : Pos} {x : Nat × Nat × Nat} (h : res β lo hi id = some x) : ¬ (lo ≤ id.toNat ∧ id.toNat < hi) ∧ β id = some x := by
  unfold res at h
  by_cases hc : lo ≤ id.toNat ∧ id.toNat < hi
  · rw [if_pos hc] at h; cases h
  · rw [if_neg hc] at h; exact ⟨hc, h⟩
theorem res_eq {β : Be} {lo hi : Nat} {id : Pos} (h : ¬ (lo ≤ id.toNat ∧ id.toNat < hi)) : res β lo hi id = β id := if_neg h
theorem res_in {β : Be} {lo hi : Nat} {id : Pos} (h : lo ≤ id.toNat ∧ id.toNat < hi) : res β lo hi id = none := if_pos h
theorem res_le {β : Be} {lo lo' hi : Nat} (h : lo ≤ lo') : (res β lo hi).le (res β lo' hi) := by
  intro id x hx
  obtain ⟨h1, h2⟩ := res_some hx
  rw [res_eq (fun c => h1 ⟨Nat.le_trans h c.1, c.2⟩), h2]
theorem res_sub {β : Be} {lo hi : Nat} : (res β lo hi).le β := fun _ _ h => (res_some h).2
theorem res_empty {β : Be} {n : Nat} : res β n n = β := by
  funext id
  exact res_eq (by omega)

noncomputable def names (ops : Array Oper) (o : Oper) : List Operand := o.op.operands.toList ++ guardOps ops o
def NamR (β : Be) (m : Nat) (l : Loc) (e : Env) (a : Act) (ops : Array Oper) (o : Oper) : Prop := ∀ x ∈ names ops o, OpdR β m l e a x
theorem NamR.opds {β : Be} {m : Nat} {l : Loc} {e : Env} {a : Act} {ops : Array Oper} {o : Oper} (h : NamR β m l e a ops o) : OpdsR β m l e a o.op :=
  fun x hx => h x (by simp [names, hx])
theorem OpdR.mono {β β' : Be} (hb : β.le β') {m : Nat} {l : Loc} {e : Env} {a : Act} {x : Operand} (h : OpdR β m l e a x) : OpdR β' m l e a x :=
  fun t v h1 h2 => let ⟨v', h3, h4⟩ := h t v h1 h2; ⟨v', h3, h4.mono hb⟩

section
variable {P : Program} {fi : FI} {ops : Array Oper}

def Asked (P : Program) (fi : FI) (s : St) (ops : Array Oper) (o : Oper) (t : Bool) : Prop :=
  ∀ β (a : Act), G0 β → NamR β (maskOf P fi.fid) s.l s.e a ops o → Region.wanted o (yielded ops a.tmps) = t

/-- an effect of a drawn region -/
structure EffGo (P : Program) (fi : FI) (ops : Array Oper) (i : Nat) (o : Oper) (s : St) (v : AV) (s' : St) : Prop where
  le : s.nx.toNat ≤ s'.nx.toNat
  go : ∀ (rest : List Nat) (k : List Item) (β : Be) (b : Frame) (a : Act) (md : Option FrameMode) (cs0 : List Frame) (w : World), b.fn = fi.fid → RndR β fi.rnd b.roundOf → UR β s.u b.kind md cs0 → DfR β s.dfs a.defers → a.tmps.size = ntmpsOf P fi.fid → NamR β (maskOf P fi.fid) s.l s.e a ops o →
    Rel (maskOf P) (ntmpsOf P) β (hof s.σ) w → Free β s.nx s'.nx →
    ∃ β' v' dd md' w', Steps P (lone (b.atR a (.inRegion ops (i :: rest) :: k)) (withMode md cs0) w) (lone (b.atR (({ a with defers := dd } : Act).put o.dst v') (.inRegion ops rest :: k)) (withMode md' cs0) w') ∧
      VR β' v v' ∧ DfR β' s'.dfs dd ∧ UR β' s'.u b.kind md' cs0 ∧ Rel (maskOf P) (ntmpsOf P) β' (hof s'.σ) w' ∧ Fr β (hof s.σ) w s.nx β' (hof s'.σ) w' s'.nx

inductive Fact where
  | skip
  | rd (v : AV) (q : Option RQ)
  | read (v : AV)
  | alloc (v : AV) (ob : AObj)
  | eff (v : AV)
def Fact.val : Fact → AV
  | .skip => .tuple []
  | .rd v _ | .read v | .alloc v _ | .eff v => v
def Fact.isE : Fact → Bool
  | .eff _ => true
  | _ => false
/-- one ahead of the other, in no order between them -/
def kindOk : Fact → Fact → Bool
  | .read _, .eff _ | .eff _, .read _ | .eff _, .eff _ => false
  | _, _ => true

def RqId : RQ → Pos
  | .cells id .. => id
  | .look _ id .. => id
  | .obj id _ => id
def RqLone : RQ → Prop
  | .cells .. => True
  | .look kk .. => kk ≠ 3
  | .obj .. => True
theorem FindH.congr {h h' : HO} {kk : Nat} (hk : kk ≠ 3) {k : AV} : ∀ {es : List (AV × AV)} {r : Option AV}, FindH h kk k es r → FindH h' kk k es r
  | [], _, h => h
  | e :: es, r, h => by
    obtain ⟨t, h1, h2⟩ := h
    refine ⟨t, ?_, ?_⟩
    · rcases h1 with h1 | ⟨h1, _⟩
      · exact .inl h1
      · exact absurd h1 hk
    · split
      · rename_i ht; rw [if_pos ht] at h2; exact h2
      · rename_i ht; rw [if_neg ht] at h2; exact FindH.congr hk h2
theorem RqH.congr {h h' : HO} {q : RQ} (hl : RqLone q) (he : h' (RqId q) = h (RqId q)) (hq : RqH h q) : RqH h' q := by
  cases q with
  | cells id off n cs =>
    obtain ⟨os, rd, lo, hi, anc, h1, h2⟩ := hq
    exact ⟨os, rd, lo, hi, anc, he.trans h1, h2⟩
  | look kk id k r =>
    obtain ⟨es, h1, h2⟩ := hq
    exact ⟨es, he.trans h1, FindH.congr hl h2⟩
  | obj id o => exact he.trans hq

def FactOk (P : Program) (fi : FI) (ops : Array Oper) (i : Nat) (o : Oper) (s s' : St) : Fact → Prop
  | .skip => Asked P fi s ops o false ∧ hof s'.σ = hof s.σ ∧ s'.nx = s.nx ∧ s'.dfs = s.dfs ∧ s'.u = s.u
  | .rd v q => Asked P fi s ops o true ∧ (∀ c, o.op ≠ .defer c) ∧ (∀ h, (∀ q', q = some q' → RqH h q') → ReadAt (maskOf P) (ntmpsOf P) P (maskOf P fi.fid) s.l s.e o h v) ∧
      (∀ q', q = some q' → RqLone q' ∧ RqH (hof s.σ) q') ∧ hof s'.σ = hof s.σ ∧ s'.nx = s.nx ∧ s'.dfs = s.dfs ∧ s'.u = s.u
  | .read v => Asked P fi s ops o true ∧ (∀ c, o.op ≠ .defer c) ∧ ReadAt (maskOf P) (ntmpsOf P) P (maskOf P fi.fid) s.l s.e o (hof s.σ) v ∧ hof s'.σ = hof s.σ ∧ s'.nx = s.nx ∧ s'.dfs = s.dfs ∧ s'.u = s.u
  | .alloc v ob => Asked P fi s ops o true ∧ (∀ c, o.op ≠ .defer c) ∧ AllocAt (maskOf P) (ntmpsOf P) P (maskOf P fi.fid) s.l s.e o s.nx v ob ∧ hof s'.σ = upd (hof s.σ) s.nx (some ob) ∧ s'.nx = s.nx.succ ∧ s'.dfs = s.dfs ∧ s'.u = s.u
  | .eff v => Asked P fi s ops o true ∧ EffGo P fi ops i o s v s'

/-- the text's order, as a whole -/
structure Tr (P : Program) (fi : FI) (ops : Array Oper) (st : Nat → St) (F : Nat → Fact) (bf : Nat → Nat → Prop) : Prop where
  fact : ∀ (i : Nat) (o : Oper), ops[i]? = some o → FactOk P fi ops i o (st i) (st (i + 1)) (F i)
  nxt : ∀ (i : Nat) (o : Oper), ops[i]? = some o → ∀ t, look (maskOf P fi.fid) (st (i + 1)).l (st (i + 1)).e t = if o.dst = some t then some (F i).val else look (maskOf P fi.fid) (st i).l (st i).e t
  dst : ∀ (i : Nat) (o : Oper), ops[i]? = some o → ∀ t, o.dst = some t → t < ntmpsOf P fi.fid
  pair : ∀ (i j : Nat) (oi oj : Oper), i < j → ops[i]? = some oi → ops[j]? = some oj → bf j i ∨
    ((∀ t, oi.dst = some t → Operand.tmp t ∉ names ops oj) ∧ (∀ t, oi.dst = some t → oj.dst ≠ some t) ∧ (∀ t, oj.dst = some t → Operand.tmp t ∉ names ops oi) ∧ kindOk (F i) (F j) = true)
  ld : ∀ (i e : Nat) (v : AV) (q : RQ) (w : AV), i < ops.size → e < ops.size → F i = .rd v (some q) → F e = .eff w → (e < i → ¬ bf i e → RqH (hof (st e).σ) q) ∧ (i < e → ¬ bf e i → RqH (hof (st (e + 1)).σ) q)
  al : ∀ (i e : Nat) (v : AV) (ob : AObj) (w : AV), i < e → e < ops.size → F i = .alloc v ob → F e = .eff w → ¬ bf e i → hof (st (e + 1)).σ (st i).nx = some ob

abbrev nxa (st : Nat → St) (k : Nat) : Nat := (st k).nx.toNat

section
variable {st : Nat → St} {F : Nat → Fact} {bf : Nat → Nat → Prop}

theorem getOp {i : Nat} (h : i < ops.size) : ∃ o, ops[i]? = some o := ⟨ops[i], by simp [h]⟩

theorem Tr.step_nx (T : Tr P fi ops st F bf) {i : Nat} (h : i < ops.size) : nxa st i ≤ nxa st (i + 1) := by
  obtain ⟨o, ho⟩ := getOp h
  have := T.fact i o ho
  unfold nxa
  cases hF : F i <;> rw [hF] at this
  · rw [this.2.2.1]; exact Nat.le_refl _
  · rw [this.2.2.2.2.2.1]; exact Nat.le_refl _
  · rw [this.2.2.2.2.1]; exact Nat.le_refl _
  · rw [this.2.2.2.2.1, Pos.toNat_succ]; omega
  · exact this.2.le
theorem Tr.nx_le (T : Tr P fi ops st F bf) : ∀ {i j : Nat}, i ≤ j → j ≤ ops.size → nxa st i ≤ nxa st j
  | i, 0, h, _ => by
    have : i = 0 := by omega
    subst this; exact Nat.le_refl _
  | i, j + 1, h, hj => by
    by_cases e : i = j + 1
    · subst e; exact Nat.le_refl _
    · exact Nat.le_trans (Tr.nx_le T (by omega) (by omega)) (T.step_nx (by omega))

/-- no effect in [b, k) -/
def NoE (F : Nat → Fact) (b k : Nat) : Prop := ∀ e, b ≤ e → e < k → (F e).isE = false

theorem Tr.stay (T : Tr P fi ops st F bf) {b : Nat} : ∀ {k : Nat}, b ≤ k → k ≤ ops.size → NoE F b k → ∀ id : Pos, ¬ (nxa st b ≤ id.toNat ∧ id.toNat < nxa st k) → hof (st k).σ id = hof (st b).σ id
  | 0, h, _, _, id, _ => by
    have : b = 0 := by omega
    subst this; rfl
  | k + 1, h, hk, hn, id, hid => by
    by_cases e : b = k + 1
    · subst e; rfl
    · have hm := T.step_nx (i := k) (by omega)
      have hb := T.nx_le (i := b) (j := k) (by omega) (by omega)
      have ih := Tr.stay T (b := b) (k := k) (by omega) (by omega) (fun e h1 h2 => hn e h1 (by omega)) id (fun c => hid ⟨c.1, by omega⟩)
      rw [← ih]
      obtain ⟨o, ho⟩ := getOp (ops := ops) (i := k) (by omega)
      have hf := T.fact k o ho
      have hne := hn k (by omega) (by omega)
      cases hF : F k <;> rw [hF] at hf hne
      · rw [hf.2.1]
      · rw [hf.2.2.2.2.1]
      · rw [hf.2.2.2.1]
      · rw [hf.2.2.2.1]
        have hs := hf.2.2.2.2.1
        have hne' : id ≠ (st k).nx := by
          intro c
          subst c
          refine hid ⟨hb, ?_⟩
          show (st k).nx.toNat < (st (k + 1)).nx.toNat
          rw [hs, Pos.toNat_succ]; omega
        simp [upd, hne']
      · cases hne

/-- an allocation is there until the next effect -/
theorem Tr.born (T : Tr P fi ops st F bf) {j k : Nat} {v : AV} {ob : AObj} (hF : F j = .alloc v ob) (hjk : j < k) (hk : k ≤ ops.size) (hn : NoE F (j + 1) k) : hof (st k).σ (st j).nx = some ob := by
  obtain ⟨o, ho⟩ := getOp (ops := ops) (i := j) (by omega)
  have hf := T.fact j o ho
  rw [hF] at hf
  have hs := hf.2.2.2.2.1
  rw [T.stay (b := j + 1) (by omega) hk hn (st j).nx, hf.2.2.2.1]
  · simp [upd]
  · intro c
    have := c.1
    unfold nxa at this
    rw [hs, Pos.toNat_succ] at this
    omega
theorem Tr.alloc_nx (T : Tr P fi ops st F bf) {j : Nat} {v : AV} {ob : AObj} (hF : F j = .alloc v ob) (hj : j < ops.size) : nxa st (j + 1) = nxa st j + 1 := by
  obtain ⟨o, ho⟩ := getOp (ops := ops) (i := j) hj
  have hf := T.fact j o ho
  rw [hF] at hf
  unfold nxa
  rw [hf.2.2.2.2.1, Pos.toNat_succ]

/-! ## what the temporaries hold when D are done -/
noncomputable def cur (ops : Array Oper) (m : Nat) (s0 : St) (F : Nat → Fact) (D : Nat → Bool) : Nat → Nat → Option AV × Nat := fun k t =>
  Nat.rec (motive := fun _ => Option AV × Nat) (look m s0.l s0.e t, 0) (fun k ih => if D k = true ∧ (ops[k]?).bind (·.dst) = some t then (some (F k).val, k + 1) else ih) k
end
end
end Go.AE
namespace Go.AE
open Go

section
variable {P : Program} {fi : FI} {ops : Array Oper} {st : Nat → St} {F : Nat → Fact} {bf : Nat → Nat → Prop}

theorem cur_zero {m : Nat} {s0 : St} {D : Nat → Bool} {t : Nat} : cur ops m s0 F D 0 t = (look m s0.l s0.e t, 0) := rfl
theorem cur_succ {m : Nat} {s0 : St} {D : Nat → Bool} {t k : Nat} : cur ops m s0 F D (k + 1) t = if D k = true ∧ (ops[k]?).bind (·.dst) = some t then (some (F k).val, k + 1) else cur ops m s0 F D k t := rfl
theorem cur_le {m : Nat} {s0 : St} {D : Nat → Bool} {t : Nat} : ∀ k, (cur ops m s0 F D k t).2 ≤ k
  | 0 => Nat.le_refl _
  | k + 1 => by
    rw [cur_succ]
    split
    · exact Nat.le_refl _
    · exact Nat.le_trans (cur_le k) (Nat.le_succ _)
theorem Tr.cur_look (T : Tr P fi ops st F bf) {t : Nat} : ∀ k, k ≤ ops.size → (cur ops (maskOf P fi.fid) (st 0) F (fun _ => true) k t).1 = look (maskOf P fi.fid) (st k).l (st k).e t
  | 0, _ => rfl
  | k + 1, hk => by
    obtain ⟨o, ho⟩ := getOp (ops := ops) (i := k) (by omega)
    rw [cur_succ, T.nxt k o ho t, ho]
    simp only [Option.bind_some, true_and]
    split
    · rfl
    · exact T.cur_look k (by omega)

def ClosedD (bf : Nat → Nat → Prop) (D : Nat → Bool) : Prop := ∀ j, D j = true → ∀ x, bf j x → D x = true
def setD (D : Nat → Bool) (i : Nat) : Nat → Bool := fun x => x == i || D x
theorem setD_same {D : Nat → Bool} {i : Nat} : setD D i i = true := by simp [setD]
theorem setD_ne {D : Nat → Bool} {i x : Nat} (h : x ≠ i) : setD D i x = D x := by simp [setD, h]
theorem setD_mono {D : Nat → Bool} {i x : Nat} (h : D x = true) : setD D i x = true := by simp [setD, h]

section
variable {D : Nat → Bool} {i : Nat} {o : Oper} {t : Nat}
theorem Tr.cur_before (T : Tr P fi ops st F bf) {m : Nat} {s0 : St} (ho : ops[i]? = some o) (hb : ∀ x, bf i x → D x = true) (ht : Operand.tmp t ∈ names ops o) :
    ∀ k, k ≤ i → cur ops m s0 F D k t = cur ops m s0 F (fun _ => true) k t
  | 0, _ => rfl
  | k + 1, hk => by
    rw [cur_succ, cur_succ, T.cur_before ho hb ht k (by omega)]
    by_cases hd : (ops[k]?).bind (·.dst) = some t
    · obtain ⟨ok, hok, hd'⟩ := Option.bind_eq_some_iff.1 hd
      have : D k = true := by
        rcases T.pair k i ok o (by omega) hok ho with h | h
        · exact hb k h
        · exact absurd ht (h.1 t hd')
      simp [this]
    · simp [hd]
theorem Tr.cur_after (T : Tr P fi ops st F bf) {m : Nat} {s0 : St} (ho : ops[i]? = some o) (hc : ClosedD bf D) (hi : D i = false) (ht : Operand.tmp t ∈ names ops o) :
    ∀ k, i ≤ k → cur ops m s0 F D k t = cur ops m s0 F D i t
  | 0, h => by
    have : i = 0 := by omega
    subst this; rfl
  | k + 1, hk => by
    by_cases e : i = k + 1
    · subst e; rfl
    · rw [cur_succ, T.cur_after ho hc hi ht k (by omega), if_neg]
      intro ⟨h1, hd⟩
      obtain ⟨ok, hok, hd'⟩ := Option.bind_eq_some_iff.1 hd
      by_cases e2 : k = i
      · subst e2; rw [hi] at h1; cases h1
      · rcases T.pair i k o ok (by omega) ho hok with h | h
        · have := hc k h1 i h; rw [hi] at this; cases this
        · exact h.2.2.1 t hd' ht
theorem cur_set_before {m : Nat} {s0 : St} : ∀ k, k ≤ i → cur ops m s0 F (setD D i) k t = cur ops m s0 F D k t
  | 0, _ => rfl
  | k + 1, hk => by rw [cur_succ, cur_succ, cur_set_before k (by omega), setD_ne (by omega)]
theorem Tr.cur_set (T : Tr P fi ops st F bf) {m : Nat} {s0 : St} (ho : ops[i]? = some o) (hc : ClosedD bf D) (hi : D i = false) :
    ∀ k, i < k → cur ops m s0 F (setD D i) k t = if o.dst = some t then (some (F i).val, i + 1) else cur ops m s0 F D k t
  | 0, h => by omega
  | k + 1, hk => by
    by_cases e : k = i
    · subst e
      rw [cur_succ, cur_succ, cur_set_before k (Nat.le_refl _), setD_same, hi, ho]
      simp
    · rw [cur_succ, cur_succ, T.cur_set ho hc hi k (by omega), setD_ne e]
      by_cases h1 : D k = true ∧ (ops[k]?).bind (·.dst) = some t
      · obtain ⟨ok, hok, hd'⟩ := Option.bind_eq_some_iff.1 h1.2
        have hne : ¬ o.dst = some t := by
          intro hd
          rcases T.pair i k o ok (by omega) ho hok with h | h
          · have := hc k h1.1 i h; rw [hi] at this; cases this
          · exact h.2.1 t hd hd'
        rw [if_pos h1, if_neg hne, if_pos h1]
      · rw [if_neg h1, if_neg h1]
end

/-! ## relations of the memory -/
theorem Rel.congr {mk nt : FuncId → Nat} {β : Be} {h h' : HO} {w : World} (R : Rel mk nt β h w) (he : ∀ id x, β id = some x → h' id = h id) : Rel mk nt β h' w :=
  ⟨R.g0, fun id o x ho hx => R.obj id o x (by rw [← he id x hx]; exact ho) hx,
   fun i j oi oj xi xj hne hi hj bi bj hb => R.sep i j oi oj xi xj hne (by rw [← he i xi bi]; exact hi) (by rw [← he j xj bj]; exact hj) bi bj hb,
   fun i o x hlt hi bi => by
    obtain ⟨g1, g2⟩ := R.glob i o x hlt (by rw [← he i x bi]; exact hi) bi
    exact ⟨g1, fun j oj xj hne hj bj => g2 j oj xj hne (by rw [← he j xj bj]; exact hj) bj⟩⟩
theorem Rel.grow {mk nt : FuncId → Nat} {β : Be} {h : HO} {w w' : World} (R : Rel mk nt β h w) (G : Grown w w') : Rel mk nt β h w' :=
  ⟨R.g0, fun id o x ho hx => (R.obj id o x ho hx).heap (G.keep _ (R.obj id o x ho hx).lt), R.sep, R.glob⟩
theorem res_mono {β β' : Be} (h : β.le β') {lo hi : Nat} : (res β lo hi).le (res β' lo hi) := by
  intro id x hx
  obtain ⟨h1, h2⟩ := res_some hx
  rw [res_eq h1]
  exact h _ _ h2
theorem Fr.within {β0 β β' : Be} {h0 h h' : HO} {w0 w w' : World} {nx nx' p q : Pos} (a : Fr β0 h0 w0 nx β h w nx') (b : Fr β h w p β' h' w' q) (hp : nx.toNat ≤ p.toNat) (hq : q.toNat ≤ nx'.toNat) : Fr β0 h0 w0 nx β' h' w' nx' := by
  have hs := a.size
  refine ⟨a.le, fun id hid => ?_, Nat.le_trans a.size b.size, fun k hk hc => ?_, fun k hk hc => a.cov k hk (b.cov k (by omega) hc), b.os.trans a.os, b.tape.trans a.tape, b.output.trans a.output, fun id o hlt ho => (let ⟨o1, h1⟩ := b.gl id o hlt ho; a.gl id o1 hlt h1)⟩
  · rw [b.out id (by omega), a.out id hid]
  · rw [b.keep k (by omega) (fun h => hc (a.cov k hk h)), a.keep k hk hc]

structure Inv (P : Program) (fi : FI) (ops : Array Oper) (st : Nat → St) (F : Nat → Fact) (bf : Nat → Nat → Prop) (β0 : Be) (w0 : World) (b : Frame) (cs0 : List Frame)
    (D : Nat → Bool) (c0 : Nat) (β : Be) (H : HO) (a : Act) (md : Option FrameMode) (w : World) : Prop where
  c0le : c0 ≤ ops.size
  effD : ∀ e, e < ops.size → (F e).isE = true → (D e = true ↔ e < c0)
  late : ∀ j v ob, j < c0 → F j = .alloc v ob → D j = false → β (st j).nx = none
  last : c0 = 0 ∨ ∃ e v, c0 = e + 1 ∧ F e = .eff v
  closed : ClosedD bf D
  h1 : ∀ id : Pos, ¬ (nxa st c0 ≤ id.toNat ∧ id.toNat < nxa st ops.size) → H id = hof (st c0).σ id
  h2 : ∀ j v ob, c0 ≤ j → j < ops.size → D j = true → F j = .alloc v ob → H (st j).nx = some ob
  h3 : ∀ (id : Pos) x, nxa st c0 ≤ id.toNat → id.toNat < nxa st ops.size → β id = some x → ∃ j v ob, c0 ≤ j ∧ j < ops.size ∧ D j = true ∧ F j = .alloc v ob ∧ (st j).nx = id
  apart : ∀ (id : Pos) x, nxa st c0 ≤ id.toNat → id.toNat < nxa st ops.size → β id = some x → ∀ id2 x2 o2, id2 ≠ id → H id2 = some o2 → β id2 = some x2 → x2.1 ≠ x.1
  rel : ∀ k, c0 ≤ k → k ≤ ops.size → Rel (maskOf P) (ntmpsOf P) (res β (nxa st k) (nxa st ops.size)) H w
  fn : b.fn = fi.fid
  rnd : RndR (res β (nxa st c0) (nxa st ops.size)) fi.rnd b.roundOf
  ur : UR (res β (nxa st c0) (nxa st ops.size)) (st c0).u b.kind md cs0
  dfs : DfR (res β (nxa st c0) (nxa st ops.size)) (st c0).dfs a.defers
  size : a.tmps.size = ntmpsOf P fi.fid
  env : ∀ t v, (cur ops (maskOf P fi.fid) (st 0) F D ops.size t).1 = some v → ∃ v', a.tmps[t]? = some v' ∧
    VR (res β (nxa st (max c0 (cur ops (maskOf P fi.fid) (st 0) F D ops.size t).2)) (nxa st ops.size)) v v'
  fr : Fr β0 (hof (st 0).σ) w0 (st 0).nx β H w (st ops.size).nx

section
variable {β0 : Be} {w0 : World} {b : Frame} {cs0 : List Frame} {D : Nat → Bool} {c0 : Nat} {β : Be} {H : HO} {a : Act} {md : Option FrameMode} {w : World} {i : Nat} {o : Oper}

theorem lt_size {i : Nat} {o : Oper} (ho : ops[i]? = some o) : i < ops.size := (Array.getElem?_eq_some_iff.1 ho).1

theorem alloc_lt (T : Tr P fi ops st F bf) {j k : Nat} {v : AV} {ob : AObj} (hF : F j = .alloc v ob) (hjk : j < k) (hk : k ≤ ops.size) : nxa st j < nxa st k := by
  have h1 := T.alloc_nx hF (by omega)
  have h2 := T.nx_le (i := j + 1) (j := k) (by omega) hk
  omega

theorem Inv.agree (I : Inv P fi ops st F bf β0 w0 b cs0 D c0 β H a md w) (T : Tr P fi ops st F bf) {k : Nat} (hk : c0 ≤ k) (hkn : k ≤ ops.size) (hn : NoE F c0 k) :
    ∀ id x, res β (nxa st k) (nxa st ops.size) id = some x → hof (st k).σ id = H id := by
  intro id x hx
  obtain ⟨h1, h2⟩ := res_some hx
  by_cases hc : nxa st c0 ≤ id.toNat ∧ id.toNat < nxa st ops.size
  · obtain ⟨j, v, ob, q1, q2, q3, q4, q5⟩ := I.h3 id x hc.1 hc.2 h2
    have hjk : j < k := by
      rcases Nat.lt_or_ge j k with h | h
      · exact h
      · have := T.nx_le h (Nat.le_of_lt q2)
        refine absurd ⟨?_, hc.2⟩ h1
        rw [← q5]; exact this
    have e1 := T.born q4 hjk hkn (fun e he1 he2 => hn e (by omega) he2)
    have e2 := I.h2 j v ob q1 q2 q3 q4
    rw [q5] at e1 e2
    rw [e1, e2]
  · rw [I.h1 id hc]
    refine T.stay hk hkn hn id fun c => hc ⟨c.1, ?_⟩
    exact Nat.lt_of_lt_of_le c.2 (T.nx_le hkn (Nat.le_refl _))
theorem Inv.text (I : Inv P fi ops st F bf β0 w0 b cs0 D c0 β H a md w) (T : Tr P fi ops st F bf) {k : Nat} (hk : c0 ≤ k) (hkn : k ≤ ops.size) (hn : NoE F c0 k) :
    Rel (maskOf P) (ntmpsOf P) (res β (nxa st k) (nxa st ops.size)) (hof (st k).σ) w :=
  (I.rel k hk hkn).congr (I.agree T hk hkn hn)

theorem Inv.nam (I : Inv P fi ops st F bf β0 w0 b cs0 D c0 β H a md w) (T : Tr P fi ops st F bf) (ho : ops[i]? = some o) (hi : D i = false) (hb : ∀ x, bf i x → D x = true) :
    NamR (res β (nxa st (max c0 i)) (nxa st ops.size)) (maskOf P fi.fid) (st i).l (st i).e a ops o := by
  intro x hx t v hxt hv
  subst hxt
  have hlt := lt_size ho
  have hcur : cur ops (maskOf P fi.fid) (st 0) F D ops.size t = cur ops (maskOf P fi.fid) (st 0) F (fun _ => true) i t := by
    rw [T.cur_after ho I.closed hi hx ops.size (by omega), T.cur_before ho hb hx i (Nat.le_refl _)]
  have h1 := I.env t v (by rw [hcur, T.cur_look i (by omega)]; exact hv)
  obtain ⟨v', q1, q2⟩ := h1
  refine ⟨v', q1, q2.mono (res_le (T.nx_le ?_ ?_))⟩
  · rw [hcur]
    have := cur_le (ops := ops) (m := maskOf P fi.fid) (s0 := st 0) (F := F) (D := fun _ => true) (t := t) i
    omega
  · have := I.c0le
    omega

/-- the temporaries behind one more -/
theorem Inv.env_put (I : Inv P fi ops st F bf β0 w0 b cs0 D c0 β H a md w) (T : Tr P fi ops st F bf) (ho : ops[i]? = some o) (hi : D i = false) {c1 : Nat} {β1 : Be} {v' : Value} (_ : c0 ≤ c1)
    (hm : ∀ p, p ≤ ops.size → (res β (nxa st (max c0 p)) (nxa st ops.size)).le (res β1 (nxa st (max c1 p)) (nxa st ops.size)))
    (hv : VR (res β1 (nxa st (max c1 (i + 1))) (nxa st ops.size)) (F i).val v') {dd : List Deferred} :
    ∀ t v, (cur ops (maskOf P fi.fid) (st 0) F (setD D i) ops.size t).1 = some v → ∃ v2, (({ a with defers := dd } : Act).put o.dst v').tmps[t]? = some v2 ∧
      VR (res β1 (nxa st (max c1 (cur ops (maskOf P fi.fid) (st 0) F (setD D i) ops.size t).2)) (nxa st ops.size)) v v2 := by
  intro t v h
  rw [T.cur_set ho I.closed hi ops.size (lt_size ho)] at h ⊢
  by_cases hd : o.dst = some t
  · rw [if_pos hd] at h ⊢
    simp only [Option.some.injEq] at h
    subst h
    refine ⟨v', ?_, hv⟩
    have hlt : t < a.tmps.size := by rw [I.size]; exact T.dst i o ho t hd
    rw [hd]
    simp [Act.put, hlt]
  · rw [if_neg hd] at h ⊢
    obtain ⟨v2, q1, q2⟩ := I.env t v h
    refine ⟨v2, ?_, q2.mono (hm _ (cur_le _))⟩
    cases hdd : o.dst with
    | none => exact q1
    | some t' =>
      rw [hdd] at hd
      have : t' ≠ t := fun h => hd (by rw [h])
      simp only [Act.put]
      rw [Array.getElem?_setIfInBounds, if_neg this]
      exact q1
end
end
end Go.AE
