/-
  A part of the proof that the evaluator is sound: what it finds, the machine does, whatever the tape; conditions as each theorem names them.
-/
import Derived.Test.YtfgfnafifflbjaaGreatDoorAe5
namespace Go.AE
open Go

section
variable {P : Program} {b : Frame} {a : Act} {k : List Item} {cs cs' : List Frame} {w w' : World} {ops : Array Oper} {i : Nat} {rest : List Nat} {o : Oper}

theorem stepR_recover (ho : ops[i]? = some o) (hw : Region.wanted o (yielded ops a.tmps) = true) (hd : ∀ c, o.op ≠ .defer c) (hb : b.roundOf = none) (h : (execOp a.eval o).run P w = .ok .recover w') {v : Value} {cs2 : List Frame}
    (hr : (tryRecover (b.atR a (.inRegion ops (i :: rest) :: k)) cs = some (v, cs2)) ∨ (tryRecover (b.atR a (.inRegion ops (i :: rest) :: k)) cs = none ∧ v = .nilIface ∧ cs2 = cs)) :
    step P (lone (b.atR a (.inRegion ops (i :: rest) :: k)) cs w) = .next (lone (b.atR (a.put o.dst v) (.inRegion ops rest :: k)) cs2 w') := by
  have hf := Frame.finish_atR b a ops i rest k v
  rw [ho] at hf
  simp only [Option.bind_some] at hf
  rw [← hf]
  have hro : (b.atR a (.inRegion ops (i :: rest) :: k)).roundOf = none := hb
  refine step_lone_go ?_
  rw [stepGR_op ho hw, Oper.semAt_eq _ _ _ hd]
  rcases hr with hr | ⟨hr, rfl, rfl⟩
  · simp [stepG.apply, Sem.runT_eq, h, hro, hr]
  · simp [stepG.apply, Sem.runT_eq, h, hro, hr]

theorem stepR_defer (ho : ops[i]? = some o) (hw : Region.wanted o (yielded ops a.tmps) = true) (hb : b.roundOf = none) {d : Deferred} (h : (execOp a.eval o).run P w = .ok (.defer d) w') :
    step P (lone (b.atR a (.inRegion ops (i :: rest) :: k)) cs w) = .next (lone (b.atR (({ a with defers := d :: a.defers } : Act).put o.dst undef) (.inRegion ops rest :: k)) cs w') := by
  have hf := Frame.finish_atR b { a with defers := d :: a.defers } ops i rest k undef
  rw [ho] at hf
  simp only [Option.bind_some] at hf
  rw [← hf]
  refine step_lone_go ?_
  rw [stepGR_op ho hw, hb, Oper.semAt_none]
  simp [stepG.apply, Sem.runT_eq, h, Frame.atR]
end

section
variable {P : Program} {L : Lv} {fi : FI} {ops : Array Oper} {i : Nat} {o : Oper}

theorem call_out (hL : LvOk P L) {s : St} (ho : ops[i]? = some o) (hw : Wants P fi s ops o true) (hdst : ∀ t, o.dst = some t → t < ntmpsOf P fi.fid) (hnd : ∀ c, o.op ≠ .defer c) {f : FuncId} {args : List AV}
    (hop : ∀ (β : Be) (a : Act), G0 β → EnvR β (maskOf P fi.fid) s.l s.e a.tmps → ∃ args', VRs β args args' ∧ ∀ w, (execOp a.eval o).run P w = (callFunc f ⟨args'⟩).run P w) {K : Loc → Env → W → Prop} {pan : KP}
    (h : L.call f args none s.σ s.nx (retK s.dfs s.u (fun v w => (put (dst (maskOf P fi.fid) o.dst)).run v s.l s.e fun l e => K l e w) pan)) : OpOut P fi ops i o s K pan := by
  obtain ⟨r, u', σ', nx', h1, h2⟩ := hL.call _ _ _ _ _ _ h
  cases r with
  | ret v =>
    obtain ⟨l', e', h3, h4, h5⟩ := put_agree h1
    exact .inl ⟨l', e', s.dfs, s.u, σ', nx', h3, h4, fun rest k => (call_ret ho hw hdst hnd hop h2).1 v l' e' rfl h5⟩
  | pan ch => exact .inr ⟨ch, s.dfs, s.u, σ', nx', h1, fun rest k => (call_ret ho hw hdst hnd hop h2).2 ch rfl⟩

theorem opX_e (hL : LvOk P L) {s : St} (ho : ops[i]? = some o) (hw : Wants P fi s ops o true) (hdst : ∀ t, o.dst = some t → t < ntmpsOf P fi.fid) {ex : EX} (hx : comp P (maskOf P fi.fid) o.op = .e ex) {K : Loc → Env → W → Prop} {pan : KP}
    (h : (opX (dst (maskOf P fi.fid) o.dst) (.e ex)).run L fi s.l s.e (.mk s.dfs s.u s.σ s.nx) K pan) : OpOut P fi ops i o s K pan := by
  have hs := comp_shape (P := P) (m := maskOf P fi.fid) o.op
  rw [hx] at hs
  clear hx
  obtain ⟨l, e, dfs, u, σ, nx⟩ := s
  obtain ⟨dst', op, ty, pos, aft, gd⟩ := o
  simp only at hs h hdst
  cases hs with
  | store t x y n hz =>
    obtain ⟨σ', h1, h2⟩ := store_spec (mk := maskOf P) (nt := ntmpsOf P) (dst := dst') (ty := ty) (pos := pos) (aft := aft) (gd := gd) (nx := nx) hz h
    exact eff_out ho hw hdst (by simp) h2 h1
  | append s x st xt et xd i' ats hat hu hxt hxd hi z hzv h0 =>
    obtain ⟨v, σ', nx', h1, h2⟩ := append_spec (mk := maskOf P) (nt := ntmpsOf P) (dst := dst') (ty := ty) (pos := pos) (aft := aft) (gd := gd) hat hu hxt hxd hi hzv h0 h
    exact eff_out ho hw hdst (by simp) h2 h1
  | copy d s t st et n ats hat hu hz =>
    obtain ⟨v, σ', h1, h2⟩ := copy_spec (mk := maskOf P) (nt := ntmpsOf P) (dst := dst') (ty := ty) (pos := pos) (aft := aft) (gd := gd) (nx := nx) hat hu hz h
    exact eff_out ho hw hdst (by simp) h2 h1
  | mapupd t kt et kd kk mp kx vx hu hkd hk =>
    obtain ⟨σ', h1, h2⟩ := mapupd_spec (mk := maskOf P) (nt := ntmpsOf P) (dst := dst') (ty := ty) (pos := pos) (aft := aft) (gd := gd) (nx := nx) hu hkd hk h
    exact eff_out ho hw hdst (by simp) h2 h1
  | range t x hu =>
    obtain ⟨v, σ', nx', h1, h2⟩ := range_spec (mk := maskOf P) (nt := ntmpsOf P) (dst := dst') (ty := ty) (pos := pos) (aft := aft) (gd := gd) hu h
    exact eff_out ho hw hdst (by simp) h2 h1
  | next x =>
    obtain ⟨v, σ', h1, h2⟩ := next_spec (mk := maskOf P) (nt := ntmpsOf P) (dst := dst') (ty := ty) (pos := pos) (aft := aft) (gd := gd) (nx := nx) h
    exact eff_out ho hw hdst (by simp) h2 h1
  | call f args ats =>
    obtain ⟨vs, h1, h2⟩ := evs_spec (maskOf P fi.fid) l e args.toList h
    refine call_out hL ho hw hdst (by simp) ?_ h1
    intro β a hG he
    refine ⟨_, h2 β a hG (fun x _ => he.opd x), fun w => ?_⟩
    have e1 : (#[] ++ args.map a.eval ++ #[] : Array Value) = ⟨args.toList.map a.eval⟩ := by apply Array.ext'; simp
    simp only [execOp, resolve, Act.eval, Deferred.ofValue]
    show (callFunc f (#[] ++ args.map a.eval ++ #[])).run P w = _
    rw [e1]
  | callv f args ats =>
    obtain ⟨fv, h0, hf⟩ := get_spec (maskOf P fi.fid) l e f h
    obtain ⟨vs, h1, h2⟩ := evs_spec (maskOf P fi.fid) l e args.toList h0
    cases fv <;> (try exact h1.elim)
    · rename_i fn first cap
      cases fn <;> (try exact h1.elim)
      rename_i g
      refine call_out hL ho hw hdst (by simp) ?_ h1
      intro β a hG he
      obtain ⟨g', x', c', hg, hv, hx', hc'⟩ := (hf β a hG (he.opd f)).func_inv
      cases hg
      refine ⟨x' ++ args.toList.map a.eval ++ c', (hx'.append (h2 β a hG (fun x _ => he.opd x))).append hc', fun w => ?_⟩
      have e1 : ((⟨x'⟩ : Array Value) ++ args.map a.eval ++ ⟨c'⟩ : Array Value) = ⟨x' ++ args.toList.map a.eval ++ c'⟩ := by apply Array.ext'; simp
      simp only [execOp, resolve, hv, Deferred.ofValue]
      show (callFunc g (⟨x'⟩ ++ args.map a.eval ++ ⟨c'⟩)).run P w = _
      rw [e1]
    · rename_i ly
      obtain ⟨v, σ', nx', h3, h4⟩ := hL.yield _ _ _ _ _ h1
      obtain ⟨l', e', h5, h6, h7⟩ := put_agree h3
      refine .inl ⟨l', e', dfs, u, σ', nx', h5, h6, fun rest k => yield_ret ho hw hdst (by simp) ?_ h4 h7⟩
      intro β a hG he
      obtain ⟨bl, x, hv, hbl⟩ := (hf β a hG (he.opd f)).yld_inv
      refine ⟨bl, x, args.toList.map a.eval, hbl, h2 β a hG (fun x _ => he.opd x), fun w => ?_⟩
      have e1 : (#[] ++ args.map a.eval : Array Value) = ⟨args.toList.map a.eval⟩ := by apply Array.ext'; simp
      simp only [execOp, resolve, hv, Deferred.ofValue]
      show (Instr.yield bl (#[] ++ args.map a.eval)).run P w = _
      rw [e1]
  | recover args ats =>
    have hrun : ∀ (a : Act) (w : World), (execOp a.eval ⟨dst', .call ⟨.builtin .recover, args, ats⟩, ty, pos, aft, gd⟩).run P w = .ok .recover w := by intro a w; rfl
    have h' : recoverK fi u fun v u => (put (dst (maskOf P fi.fid) dst')).run v l e fun l e => K l e (.mk dfs u σ nx) := h
    unfold recoverK at h'
    obtain ⟨fid, rnd⟩ := fi
    cases rnd with
    | some x => exact h'.elim
    | none =>
      simp only at h'
      split at h'
      · rename_i v older
        obtain ⟨l', e', h5, h6, h7⟩ := put_agree h'
        refine .inl ⟨l', e', dfs, _, σ, nx, h5, h6, fun rest k => ⟨Nat.le_refl _, fun β b a md cs0 w hs _ => ?_⟩⟩
        obtain ⟨hk, hcs, md', rfl, ch', rfl, hch⟩ := hs.u
        cases hch with
        | cons _ v' _ _ old' hv hold =>
          cases cs0 with
          | nil => exact (hcs rfl).elim
          | cons c r =>
            have st := stepR_recover (P := P) (w := w) (w' := w) (rest := rest) (k := k) (cs := withMode (some (.panicking ({ v := v', recovered := false } :: old'))) (c :: r)) (v := v') (cs2 := withMode (some (.panicking ({ v := v', recovered := true } :: old'))) (c :: r))
              ho (hw β a hs.rel.g0 hs.env) (by simp) hs.rnd (hrun a w) (.inl (by
                have hkk : (b.atR a (.inRegion ops (i :: rest) :: k)).kind = .deferred := hk
                unfold tryRecover
                rw [hkk]
                rfl))
            refine ⟨β, _, _, w, .one st, ⟨hs.fn, hs.rnd, ⟨hk, hcs, _, rfl, _, rfl, .cons _ _ _ _ _ hv hold⟩, h7 β a v' hs.env hv (fun t ht => by rw [hs.size]; exact hdst t ht), by rw [put_size]; exact hs.size, by rw [put_defers]; exact hs.dfs, hs.rel⟩, Fr.refl _ _ _ _⟩
      · rename_i hno
        obtain ⟨l', e', h5, h6, h7⟩ := put_agree h'
        refine .inl ⟨l', e', dfs, u, σ, nx, h5, h6, fun rest k => ⟨Nat.le_refl _, fun β b a md cs0 w hs _ => ?_⟩⟩
        have hnone : tryRecover (b.atR a (.inRegion ops (i :: rest) :: k)) (withMode md cs0) = none := by
          have hu := hs.u
          simp only at hu
          cases u with
          | none =>
            have hkk : (b.atR a (.inRegion ops (i :: rest) :: k)).kind = .normal := hu.1
            unfold tryRecover
            rw [hkk]
          | some mo =>
            obtain ⟨hk, hcs, md', rfl, hm⟩ := hu
            have hkk : (b.atR a (.inRegion ops (i :: rest) :: k)).kind = .deferred := hk
            cases cs0 with
            | nil => exact (hcs rfl).elim
            | cons c r =>
              unfold tryRecover
              rw [hkk]
              cases mo with
              | none => cases hm; rfl
              | some ch =>
                obtain ⟨ch', rfl, hch⟩ := hm
                cases hch with
                | nil => rfl
                | cons v v' t l l' hv hl =>
                  cases t with
                  | true => rfl
                  | false => exact (hno v l rfl).elim
        have st := stepR_recover (P := P) (w := w) (w' := w) (rest := rest) (k := k) (cs := withMode md cs0) (v := .nilIface) (cs2 := withMode md cs0) ho (hw β a hs.rel.g0 hs.env) (by simp) hs.rnd (hrun a w) (.inr ⟨hnone, rfl, rfl⟩)
        exact ⟨β, _, md, w, .one st, hs.put (fun _ _ h => h) .nilIface hdst h7 hs.rel, Fr.refl _ _ _ _⟩
  | defer f args ats =>
    obtain ⟨fv, h0, hf⟩ := get_spec (maskOf P fi.fid) l e f h
    obtain ⟨vs, h1, h2⟩ := evs_spec (maskOf P fi.fid) l e args.toList h0
    have h' : deferK fi fv vs dfs fun dfs => (put (dst (maskOf P fi.fid) dst')).run (.tuple []) l e fun l e => K l e (.mk dfs u σ nx) := h1
    unfold deferK at h'
    obtain ⟨fid, rnd⟩ := fi
    cases rnd with
    | some x => exact h'.elim
    | none =>
      simp only at h'
      split at h'
      · rename_i g x c
        obtain ⟨l', e', h5, h6, h7⟩ := put_agree h'
        refine .inl ⟨l', e', _, u, σ, nx, h5, h6, fun rest k => ⟨Nat.le_refl _, fun β b a md cs0 w hs _ => ?_⟩⟩
        obtain ⟨g', x', c', hg, hv, hx', hc'⟩ := (hf β a hs.rel.g0 (hs.env.opd f)).func_inv
        cases hg
        have hargs := h2 β a hs.rel.g0 (fun x _ => hs.env.opd x)
        have e1 : ((⟨x'⟩ : Array Value) ++ args.map a.eval : Array Value) = ⟨x' ++ args.toList.map a.eval⟩ := by apply Array.ext'; simp
        have hrun : (execOp a.eval ⟨dst', .defer ⟨.value f, args, ats⟩, ty, pos, aft, gd⟩).run P w = .ok (.defer { target := .fn (.func g) ⟨c'⟩, args := ⟨x' ++ args.toList.map a.eval⟩ }) w := by
          simp only [execOp, resolve, hv, Deferred.ofValue, e1]
          rfl
        have st := stepR_defer (P := P) (w := w) (w' := w) (rest := rest) (k := k) (cs := withMode md cs0) ho (hw β a hs.rel.g0 hs.env) hs.rnd hrun
        refine ⟨β, _, md, w, .one st, ⟨hs.fn, hs.rnd, hs.u, ?_, by rw [put_size]; exact hs.size, by rw [put_defers]; exact .call g x c vs x' c' _ dfs _ hx' hc' hargs hs.dfs, hs.rel⟩, Fr.refl _ _ _ _⟩
        exact h7 β { a with defers := _ } undef hs.env (.tuple [] [] .nil) (fun t ht => by show t < a.tmps.size; rw [hs.size]; exact hdst t ht)
      · exact h'.elim
end
end Go.AE
namespace Go.AE
open Go

section
variable {P : Program} {L : Lv} {fi : FI} {ops : Array Oper}

theorem guardK_spec {v : AV} {w : Bool} {c : Bool → Prop} (h : guardK v w c) : ∃ r, c r ∧ ((∃ bb, v = .bool bb ∧ r = (bb == w)) ∨ (v = .tuple [] ∧ r = false)) := by
  cases v <;> (try exact h.elim)
  · rename_i b
    have h' : forceBool (b == w) c := h
    rw [forceBool_eq] at h'
    exact ⟨_, h', .inl ⟨b, rfl, rfl⟩⟩
  · rename_i vs
    cases vs with
    | nil => exact ⟨false, h, .inr ⟨rfl, rfl⟩⟩
    | cons _ _ => exact h.elim

theorem opX_sound (hL : LvOk P L) {i : Nat} {o : Oper} {s : St} (ho : ops[i]? = some o) (hw : Wants P fi s ops o true) (hdst : ∀ t, o.dst = some t → t < ntmpsOf P fi.fid) {K : Loc → Env → W → Prop} {pan : KP}
    (h : (opX (dst (maskOf P fi.fid) o.dst) (comp P (maskOf P fi.fid) o.op)).run L fi s.l s.e (.mk s.dfs s.u s.σ s.nx) K pan) : OpOut P fi ops i o s K pan := by
  cases hx : comp P (maskOf P fi.fid) o.op with
  | p px => rw [hx] at h; exact opX_p ho hw hdst hx h
  | r rx => rw [hx] at h; exact opX_r ho hw hdst hx h
  | a ax => rw [hx] at h; exact opX_a ho hw hdst hx h
  | e ex => rw [hx] at h; exact opX_e hL ho hw hdst hx h
  | bad o' => rw [hx] at h; exact h.elim

theorem op_sound (hL : LvOk P L) {i : Nat} {o : Oper} {s : St} (ho : ops[i]? = some o) (hdst : ∀ t, o.dst = some t → t < ntmpsOf P fi.fid) {aop : AOp} (hc : compOp P (maskOf P fi.fid) ops o = some aop) {K : Loc → Env → W → Prop} {pan : KP}
    (h : aop.run L fi s.l s.e (.mk s.dfs s.u s.σ s.nx) K pan) : OpOut P fi ops i o s K pan := by
  unfold compOp at hc
  split at hc
  · rename_i hg
    cases hc
    exact opX_sound hL ho (wants_none hg) hdst h
  · rename_i j w hg
    split at hc
    · rename_i t ht
      cases hc
      obtain ⟨g, h1, h2⟩ := get_spec (maskOf P fi.fid) s.l s.e (.tmp t) h
      obtain ⟨r, h3, h4⟩ := guardK_spec h1
      have hw := wants_some (P := P) (fi := fi) (ops := ops) (o := o) (s := s) hg ht h2 h4
      rw [ite'_eq] at h3
      cases r with
      | true => exact opX_sound hL ho hw hdst h3
      | false =>
        simp only [Bool.false_eq_true, if_false] at h3
        obtain ⟨l', e', h5, h6, h7⟩ := put_agree h3
        exact .inl ⟨l', e', s.dfs, s.u, s.σ, s.nx, h5, h6, fun rest k => goes_skip ho hw hdst h7⟩
    · cases hc

/-- what is no destination of any stays -/
def AgreeAll (m : Nat) (os : List Oper) (e e' : Env) : Prop := ∀ p, p ∉ dstVars m os → T.get p e' = T.get p e
theorem agree_vars {m : Nat} {os : List Oper} {o : Oper} (hmem : o ∈ os) {e e' : Env} (h : Agree m o.dst e e') : AgreeAll m os e e' := by
  intro p hp
  refine h p fun t ht hb hpt => hp ?_
  subst hpt
  clear h hp
  induction os with
  | nil => cases hmem
  | cons o2 os ih =>
    simp only [dstVars]
    rcases List.mem_cons.1 hmem with rfl | hm
    · rw [ht]; simp [hb]
    · have := ih hm
      split
      · cases bit m _ <;> simp [this]
      · exact this

theorem ops_sound (hL : LvOk P L) (hall : ∀ o ∈ ops.toList, ∀ t, o.dst = some t → t < ntmpsOf P fi.fid) : ∀ (os : List Oper) (i : Nat), ops.toList.drop i = os → ∀ {aops : List AOp}, compOps P (maskOf P fi.fid) ops os = some aops →
    ∀ (s : St) {K : KX} {pan : KP}, runOps L fi pan aops s.l s.e (.mk s.dfs s.u s.σ s.nx) K →
    (∃ s', K .normal s'.e (.mk s'.dfs s'.u s'.σ s'.nx) ∧ ∀ k, Goes P fi s s' (.inRegion ops (List.range' i os.length) :: k) (.inRegion ops [] :: k)) ∨
    (∃ ch s', pan ch (.mk s'.dfs s'.u s'.σ s'.nx) ∧ AgreeAll (maskOf P fi.fid) ops.toList s.e s'.e ∧ ∀ k, GoesP P fi s s' (.inRegion ops (List.range' i os.length) :: k) ch)
  | [], i, _, aops, hc, s, K, pan, h => by
    simp only [compOps, Option.some.injEq] at hc
    subst hc
    exact .inl ⟨s, h, fun k => Goes.refl _ _ _ _⟩
  | o :: os, i, hd, aops, hc, s, K, pan, h => by
    have ho : ops[i]? = some o := by
      have : (ops.toList.drop i)[0]? = some o := by rw [hd]; rfl
      rw [List.getElem?_drop] at this
      simpa using this
    have hmem : o ∈ ops.toList := by
      have : o ∈ ops.toList.drop i := by rw [hd]; simp
      exact List.mem_of_mem_drop this
    have hd2 : ops.toList.drop (i + 1) = os := by
      rw [← List.drop_drop, hd]; rfl
    simp only [compOps] at hc
    split at hc
    · rename_i aop al h1 h2
      cases hc
      have h' : aop.run L fi s.l s.e (.mk s.dfs s.u s.σ s.nx) (fun l env w => runOps L fi pan al l env w K) pan := h
      rcases op_sound hL ho (hall o hmem) h1 h' with ⟨l', e', dfs', u', σ', nx', k1, k2, k3⟩ | ⟨ch, dfs', u', σ', nx', k1, k3⟩
      · rcases ops_sound hL hall os (i + 1) hd2 h2 ⟨l', e', dfs', u', σ', nx'⟩ k1 with ⟨s', q1, q2⟩ | ⟨ch, s', q1, q2, q3⟩
        · exact .inl ⟨s', q1, fun k => (k3 _ k).trans (q2 k)⟩
        · refine .inr ⟨ch, s', q1, fun p hp => ?_, fun k => (k3 _ k).panic (q3 k)⟩
          rw [q2 p hp]
          exact agree_vars hmem k2 p hp
      · exact .inr ⟨ch, ⟨s.l, s.e, dfs', u', σ', nx'⟩, k1, fun p hp => rfl, fun k => k3 _ k⟩
    · cases hc

theorem eraseAll_spec : ∀ (ps : List Pos) {e : Env} {c : Env → Prop}, eraseAll ps e c → ∃ e', c e' ∧ ∀ p, T.get p e' = if p ∈ ps then none else T.get p e
  | [], e, c, h => ⟨e, h, by simp⟩
  | q :: ps, e, c, h => by
    have h' : T.set q e none fun e => eraseAll ps e c := h
    obtain ⟨e1, h1, h2⟩ := T.set_spec _ _ _ _ h'
    obtain ⟨e2, h3, h4⟩ := eraseAll_spec ps h1
    refine ⟨e2, h3, fun p => ?_⟩
    rw [h4, h2]
    by_cases hp : p ∈ ps
    · simp [hp]
    · by_cases hq : p = q
      · simp [hq]
      · simp [hp, hq]

theorem dstsIn_spec {N : Nat} : ∀ {os : List Oper}, dstsIn N os = true → ∀ o ∈ os, ∀ t, o.dst = some t → t < N
  | [], _, o, ho, _, _ => by cases ho
  | o :: os, h, o', ho, t, ht => by
    simp only [dstsIn, Bool.and_eq_true] at h
    rcases List.mem_cons.1 ho with rfl | hm
    · rw [ht] at h
      simpa [blt_iff] using h.1
    · exact dstsIn_spec h.2 o' hm t ht

/-- the locals of a region are dropped -/
theorem StR.drop {s : St} {β : Be} {b : Frame} {a : Act} {md : Option FrameMode} {cs0 : List Frame} {w : World} (h : StR P fi s β b a md cs0 w) {e' : Env} (he : ∀ p v, T.get p e' = some v → T.get p s.e = some v) :
    StR P fi ⟨.nil, e', s.dfs, s.u, s.σ, s.nx⟩ β b a md cs0 w := by
  refine ⟨h.fn, h.rnd, h.u, ?_, h.size, h.dfs, h.rel⟩
  intro t v hv
  refine h.env t v ?_
  unfold look at hv ⊢
  by_cases hb : bit (maskOf P fi.fid) t = true
  · rw [if_pos hb] at hv ⊢; exact he _ _ hv
  · rw [if_neg hb] at hv; simp [Loc.get] at hv

/-- a region in the text's order -/
theorem region_plain (hL : LvOk P L) {id : Nat} (hdsts : dstsIn (ntmpsOf P fi.fid) ops.toList = true) {aops : List AOp} (hc : compOps P (maskOf P fi.fid) ops ops.toList = some aops) (env : Env) (dfs : List DF) (u : U) (σ : Heap) (nx : Pos) {K : KX}
    (h : runOps L fi (panK (maskOf P fi.fid) ops env K) aops .nil env (.mk dfs u σ nx) K) :
    ∃ e env' dfs' u' σ' nx', K e env' (.mk dfs' u' σ' nx') ∧ ExecOk P fi (.region id ops false) ⟨.nil, env, dfs, u, σ, nx⟩ e ⟨.nil, env', dfs', u', σ', nx'⟩ := by
  have hr : List.range ops.size = List.range' 0 ops.toList.length := by rw [List.range_eq_range', Array.length_toList]
  rcases ops_sound hL (dstsIn_spec hdsts) ops.toList 0 (by simp) hc ⟨.nil, env, dfs, u, σ, nx⟩ h with ⟨s', h1, h2⟩ | ⟨ch, s', h1, h2, h3⟩
  · refine ⟨.normal, s'.e, s'.dfs, s'.u, s'.σ, s'.nx, h1, (h2 []).1, fun β b a md cs0 w k hs hf => ?_⟩
    obtain ⟨β', a', md', w', q1, q2, q3⟩ := (h2 k).2 β b a md cs0 w hs hf
    refine ⟨β', a', md', w', ?_, q2.drop (fun _ _ h => h), q3⟩
    rw [← hr] at q1
    exact (Steps.head stepR_region q1).trans (.one stepR_region_end)
  · obtain ⟨e2, h4, h5⟩ := eraseAll_spec _ h1
    refine ⟨.panic ch, e2, s'.dfs, s'.u, s'.σ, s'.nx, h4, (h3 []).1, fun β b a md cs0 w k hs hf => ?_⟩
    obtain ⟨β', a', md', w', todo, ch', q0, q1, q2, q3⟩ := (h3 k).2 β b a md cs0 w hs hf
    rw [← hr] at q1
    refine ⟨β', a', md', w', ⟨todo, ch', q0, Steps.head stepR_region q1⟩, q2.drop (fun p v hv => ?_), q3⟩
    rw [h5] at hv
    by_cases hp : p ∈ dstVars (maskOf P fi.fid) ops.toList
    · simp [hp] at hv
    · simp only [hp, if_false] at hv
      rw [h2 p hp]; exact hv
end
end Go.AE
namespace Go.AE
open Go

section
variable {P : Program} {fi : FI}

/-- behind steps that leave the state as it was -/
theorem ExecFrom.head {T T' : List Item → List Item} {s s' : St} {e : AExit} (hst : ∀ (b : Frame) (a : Act) (cs : List Frame) (w : World) (k : List Item), Steps P (lone (b.atR a (T k)) cs w) (lone (b.atR a (T' k)) cs w))
    (h : ExecFrom P fi T' s e s') : ExecFrom P fi T s e s' := by
  refine ⟨h.1, fun β b a md cs0 w k hs hf => ?_⟩
  obtain ⟨β', a', md', w', q1, q2, q3⟩ := h.2 β b a md cs0 w k hs hf
  exact ⟨β', a', md', w', .of_steps (hst b a _ w k) q1, q2, q3⟩

/-- one code, then the rest of the items -/
theorem ExecFrom.seq {T T2 : List Item → List Item} {s s1 s2 : St} {e : AExit} (h1 : ExecFrom P fi T s .normal s1) (h2 : ExecFrom P fi T2 s1 e s2) : ExecFrom P fi (fun k => T (T2 k)) s e s2 := by
  refine ⟨Nat.le_trans h1.1 h2.1, fun β b a md cs0 w k hs hf => ?_⟩
  obtain ⟨β1, a1, md1, w1, q1, q2, q3⟩ := h1.2 β b a md cs0 w (T2 k) hs (hf.left h2.1)
  obtain ⟨β2, a2, md2, w2, r1, r2, r3⟩ := h2.2 β1 b a1 md1 cs0 w1 k q2 (hf.right q3)
  exact ⟨β2, a2, md2, w2, .of_steps q1 r1, r2, q3.trans r3⟩

/-- it is left ahead of the rest -/
theorem ExecFrom.leave {T : List Item → List Item} {x : Item} (hx : ∀ id k, exitTo id (x :: k) = exitTo id k) {s s1 : St} {e : AExit} (hne : e ≠ .normal) (h1 : ExecFrom P fi T s e s1) : ExecFrom P fi (fun k => T (x :: k)) s e s1 := by
  refine ⟨h1.1, fun β b a md cs0 w k hs hf => ?_⟩
  obtain ⟨β1, a1, md1, w1, q1, q2, q3⟩ := h1.2 β b a md cs0 w (x :: k) hs hf
  refine ⟨β1, a1, md1, w1, ?_, q2, q3⟩
  cases e with
  | normal => exact (hne rfl).elim
  | exit id =>
    obtain ⟨k2, z1, z2⟩ := q1
    refine ⟨k2, ?_, z2⟩
    rw [z1, hx]
  | ret => exact q1
  | panic ch => exact q1

theorem exec_item {T : List Item → List Item} {x : Item} {s s1 : St} (h1 : ExecFrom P fi T s .normal s1) (hst : ∀ (b : Frame) (a : Act) (cs : List Frame) (w : World) (k : List Item), Steps P (lone (b.atR a (x :: k)) cs w) (lone (b.atR a k) cs w)) :
    ExecFrom P fi (fun k => T (x :: k)) s .normal s1 := by
  refine ⟨h1.1, fun β b a md cs0 w k hs hf => ?_⟩
  obtain ⟨β1, a1, md1, w1, q1, q2, q3⟩ := h1.2 β b a md cs0 w (x :: k) hs hf
  exact ⟨β1, a1, md1, w1, Steps.trans q1 (hst b a1 _ w1 k), q2, q3⟩

theorem exec_at {code : Code} {e : AExit} {s : St} (h : ∀ (b : Frame) (a : Act) (cs : List Frame) (w : World) (k : List Item) (β : Be), ArrR P (lone (b.atR a (.code code :: k)) cs w) b k cs β e a w) : ExecOk P fi code s e s :=
  ⟨Nat.le_refl _, fun β b a md _ w k hs _ => ⟨β, a, md, w, h b a _ w k β, hs, Fr.refl _ _ _ _⟩⟩

/-- a region that draws its order -/
def DrawOk (P : Program) : Prop := ∀ L, LvOk P L → ∀ fi id ops env dfs u σ nx K, runRegion P L fi ops true env (.mk dfs u σ nx) K →
  ∃ e env' dfs' u' σ' nx', K e env' (.mk dfs' u' σ' nx') ∧ ExecOk P fi (.region id ops true) ⟨.nil, env, dfs, u, σ, nx⟩ e ⟨.nil, env', dfs', u', σ', nx'⟩
/-- a range over a function -/
def RangeOk (P : Program) : Prop := ∀ L, LvOk P L → ∀ fi f params assign body env dfs u σ nx K, execF P L fi (.rangeFunc f params assign body) env (.mk dfs u σ nx) K →
  ∃ e env' dfs' u' σ' nx', K e env' (.mk dfs' u' σ' nx') ∧ ExecOk P fi (.rangeFunc f params assign body) ⟨.nil, env, dfs, u, σ, nx⟩ e ⟨.nil, env', dfs', u', σ', nx'⟩

theorem loop_sound {L : Lv} (hL : LvOk P L) {x : Code} {env : Env} {dfs : List DF} {u : U} {σ : Heap} {nx : Pos} {K : KX} (h : execF P L fi (.loop x) env (.mk dfs u σ nx) K) :
    ∃ e env' dfs' u' σ' nx', K e env' (.mk dfs' u' σ' nx') ∧ ExecFrom P fi (fun k => .code x :: .inLoop x :: k) ⟨.nil, env, dfs, u, σ, nx⟩ e ⟨.nil, env', dfs', u', σ', nx'⟩ := by
  obtain ⟨e, env1, dfs1, u1, σ1, nx1, h1, h2, _⟩ := hL.exec fi x env dfs u σ nx _ h
  cases e with
  | normal =>
    obtain ⟨e, env2, dfs2, u2, σ2, nx2, h3, h4, h5⟩ := hL.exec fi (.loop x) env1 dfs1 u1 σ1 nx1 _ h1
    exact ⟨e, env2, dfs2, u2, σ2, nx2, h3, ExecFrom.seq (T := fun k => .code x :: k) (T2 := fun k => .inLoop x :: k) h2 (h5 x rfl)⟩
  | exit id => exact ⟨_, env1, dfs1, u1, σ1, nx1, h1, ExecFrom.leave (T := fun k => .code x :: k) (x := .inLoop x) (fun _ _ => rfl) (by simp) h2⟩
  | ret => exact ⟨_, env1, dfs1, u1, σ1, nx1, h1, ExecFrom.leave (T := fun k => .code x :: k) (x := .inLoop x) (fun _ _ => rfl) (by simp) h2⟩
  | panic ch => exact ⟨_, env1, dfs1, u1, σ1, nx1, h1, ExecFrom.leave (T := fun k => .code x :: k) (x := .inLoop x) (fun _ _ => rfl) (by simp) h2⟩
theorem stepR_scope {b : Frame} {a : Act} {k : List Item} {cs : List Frame} {w : World} {c : Code} : step P (lone (b.atR a (.code (.scope c) :: k)) cs w) = .next (lone (b.atR a (.code c :: .inScope c :: k)) cs w) :=
  step_lone_go (by simp [stepG, stepG.exec, Frame.atR])
theorem stepR_inScope {b : Frame} {a : Act} {k : List Item} {cs : List Frame} {w : World} {c : Code} : step P (lone (b.atR a (.inScope c :: k)) cs w) = .next (lone (b.atR a k) cs w) :=
  step_lone_go (by simp [stepG, stepG.exec, Frame.atR])

theorem exec_sound (hD : DrawOk P) (hR : RangeOk P) {L : Lv} (hL : LvOk P L) : ∀ fi code env dfs u σ nx K, execF P L fi code env (.mk dfs u σ nx) K →
    ∃ e env' dfs' u' σ' nx', K e env' (.mk dfs' u' σ' nx') ∧ ExecOk P fi code ⟨.nil, env, dfs, u, σ, nx⟩ e ⟨.nil, env', dfs', u', σ', nx'⟩ := by
  intro fi code env dfs u σ nx K h
  cases code with
  | skip => exact ⟨.normal, env, dfs, u, σ, nx, h, exec_at fun b a cs w k β => .one stepR_skip⟩
  | label l => exact ⟨.normal, env, dfs, u, σ, nx, h, exec_at fun b a cs w k β => .one stepR_label⟩
  | region id ops draw =>
    cases draw with
    | true => exact hD L hL fi id ops env dfs u σ nx K h
    | false =>
      have h' : runRegion P L fi ops false env (.mk dfs u σ nx) K := h
      unfold runRegion ready plan at h'
      cases hd : dstsIn (ntmpsOf P fi.fid) ops.toList with
      | false => rw [hd] at h'; exact h'.elim
      | true =>
        rw [hd] at h'
        simp only [cond_true] at h'
        cases hc : compOps P (maskOf P fi.fid) ops ops.toList with
        | none => rw [hc] at h'; exact h'.elim
        | some aops => rw [hc] at h'; exact region_plain hL hd hc env dfs u σ nx h'
  | seq x y =>
    obtain ⟨e, env1, dfs1, u1, σ1, nx1, h1, h2, _⟩ := hL.exec fi x env dfs u σ nx _ h
    have hseq : ∀ (b : Frame) (a : Act) (cs : List Frame) (w : World) (k : List Item), Steps P (lone (b.atR a (.code (.seq x y) :: k)) cs w) (lone (b.atR a (.code x :: .code y :: k)) cs w) := fun b a cs w k => .one stepR_seq
    cases e with
    | normal =>
      obtain ⟨e, env2, dfs2, u2, σ2, nx2, h3, h4, _⟩ := hL.exec fi y env1 dfs1 u1 σ1 nx1 _ h1
      exact ⟨e, env2, dfs2, u2, σ2, nx2, h3, ExecFrom.head hseq (ExecFrom.seq (T2 := fun k => .code y :: k) h2 h4)⟩
    | exit id => exact ⟨_, env1, dfs1, u1, σ1, nx1, h1, ExecFrom.head hseq (ExecFrom.leave (x := .code y) (fun _ _ => rfl) (by simp) h2)⟩
    | ret => exact ⟨_, env1, dfs1, u1, σ1, nx1, h1, ExecFrom.head hseq (ExecFrom.leave (x := .code y) (fun _ _ => rfl) (by simp) h2)⟩
    | panic ch => exact ⟨_, env1, dfs1, u1, σ1, nx1, h1, ExecFrom.head hseq (ExecFrom.leave (x := .code y) (fun _ _ => rfl) (by simp) h2)⟩
  | cond c x y =>
    have h' : (get (xo (maskOf P fi.fid) c)).run .nil env fun v => condK v (L.exec fi x env (.mk dfs u σ nx) K) (L.exec fi y env (.mk dfs u σ nx) K) := h
    obtain ⟨v, h1, h2⟩ := get_spec (maskOf P fi.fid) .nil env c h'
    cases v <;> (try exact h1.elim)
    rename_i t
    have h1' : ite' t (L.exec fi x env (.mk dfs u σ nx) K) (L.exec fi y env (.mk dfs u σ nx) K) := h1
    have fin : ∀ z, (if t then x else y) = z → L.exec fi z env (.mk dfs u σ nx) K →
        ∃ e env' dfs' u' σ' nx', K e env' (.mk dfs' u' σ' nx') ∧ ExecOk P fi (.cond c x y) ⟨.nil, env, dfs, u, σ, nx⟩ e ⟨.nil, env', dfs', u', σ', nx'⟩ := by
      intro z hz h3
      obtain ⟨e, env1, dfs1, u1, σ1, nx1, h4, h5, _⟩ := hL.exec fi z env dfs u σ nx _ h3
      refine ⟨e, env1, dfs1, u1, σ1, nx1, h4, h5.1, fun β b a md cs0 w k hs hf => ?_⟩
      obtain ⟨β', a', md', w', q1, q2, q3⟩ := h5.2 β b a md cs0 w k hs hf
      have hev := (h2 β a hs.rel.g0 (hs.env.opd c)).bool_inv
      refine ⟨β', a', md', w', .of_steps (.one (stepR_cond hev)) ?_, q2, q3⟩
      rw [hz]; exact q1
    cases t with
    | true => exact fin x rfl h1'
    | false => exact fin y rfl h1'
  | block id x =>
    obtain ⟨e, env1, dfs1, u1, σ1, nx1, h1, h2, _⟩ := hL.exec fi x env dfs u σ nx _ h
    have hb : ∀ (b : Frame) (a : Act) (cs : List Frame) (w : World) (k : List Item), Steps P (lone (b.atR a (.code (.block id x) :: k)) cs w) (lone (b.atR a (.code x :: .inBlock id :: k)) cs w) := fun b a cs w k => .one stepR_block
    have pass : ∀ e', e' ≠ .normal → (∀ id', e' ≠ .exit id') → ExecOk P fi x ⟨.nil, env, dfs, u, σ, nx⟩ e' ⟨.nil, env1, dfs1, u1, σ1, nx1⟩ → ExecOk P fi (.block id x) ⟨.nil, env, dfs, u, σ, nx⟩ e' ⟨.nil, env1, dfs1, u1, σ1, nx1⟩ := by
      intro e' hn hne h3
      refine ExecFrom.head (T' := fun k => .code x :: .inBlock id :: k) hb ⟨h3.1, fun β b a md cs0 w k hs hf => ?_⟩
      obtain ⟨β', a', md', w', q1, q2, q3⟩ := h3.2 β b a md cs0 w (.inBlock id :: k) hs hf
      refine ⟨β', a', md', w', ?_, q2, q3⟩
      cases e' with
      | normal => exact (hn rfl).elim
      | exit id' => exact (hne id' rfl).elim
      | ret => exact q1
      | panic ch => exact q1
    cases e with
    | normal => exact ⟨.normal, env1, dfs1, u1, σ1, nx1, h1, ExecFrom.head hb (exec_item (T := fun k => .code x :: k) (x := .inBlock id) h2 fun b a cs w k => .one stepR_inBlock)⟩
    | exit id' =>
      have h1' : ite' (Nat.beq id' id) (K .normal env1 (.mk dfs1 u1 σ1 nx1)) (K (.exit id') env1 (.mk dfs1 u1 σ1 nx1)) := h1
      rw [ite'_eq, beq_dec] at h1'
      by_cases hid : id' = id
      · subst hid
        simp only [decide_true, if_true] at h1'
        refine ⟨.normal, env1, dfs1, u1, σ1, nx1, h1', ExecFrom.head (T' := fun k => .code x :: .inBlock id' :: k) hb ⟨h2.1, fun β b a md cs0 w k hs hf => ?_⟩⟩
        obtain ⟨β', a', md', w', ⟨k2, q1, q1'⟩, q2, q3⟩ := h2.2 β b a md cs0 w (.inBlock id' :: k) hs hf
        have : exitTo id' k2 = some k := by rw [q1]; simp [exitTo]
        exact ⟨β', a', md', w', q1'.trans (.one (stepR_exit this)), q2, q3⟩
      · simp only [hid, decide_false, Bool.false_eq_true, if_false] at h1'
        refine ⟨.exit id', env1, dfs1, u1, σ1, nx1, h1', ExecFrom.head (T' := fun k => .code x :: .inBlock id :: k) hb ⟨h2.1, fun β b a md cs0 w k hs hf => ?_⟩⟩
        obtain ⟨β', a', md', w', ⟨k2, q1, q1'⟩, q2, q3⟩ := h2.2 β b a md cs0 w (.inBlock id :: k) hs hf
        have hne : (id == id') = false := by simp; exact fun h => hid h.symm
        exact ⟨β', a', md', w', ⟨k2, by rw [q1]; simp [exitTo, hne], q1'⟩, q2, q3⟩
    | ret => exact ⟨_, env1, dfs1, u1, σ1, nx1, h1, pass _ (by simp) (by simp) h2⟩
    | panic ch => exact ⟨_, env1, dfs1, u1, σ1, nx1, h1, pass _ (by simp) (by simp) h2⟩
  | loop x =>
    obtain ⟨e, env1, dfs1, u1, σ1, nx1, h1, h2⟩ := loop_sound (fi := fi) hL h
    exact ⟨e, env1, dfs1, u1, σ1, nx1, h1, ExecFrom.head (fun b a cs w k => .one stepR_loop) h2⟩
  | scope x =>
    obtain ⟨e, env1, dfs1, u1, σ1, nx1, h1, h2, _⟩ := hL.exec fi x env dfs u σ nx _ h
    have hb : ∀ (b : Frame) (a : Act) (cs : List Frame) (w : World) (k : List Item), Steps P (lone (b.atR a (.code (.scope x) :: k)) cs w) (lone (b.atR a (.code x :: .inScope x :: k)) cs w) := fun b a cs w k => .one stepR_scope
    cases e with
    | normal => exact ⟨.normal, env1, dfs1, u1, σ1, nx1, h1, ExecFrom.head hb (exec_item (T := fun k => .code x :: k) (x := .inScope x) h2 fun b a cs w k => .one stepR_inScope)⟩
    | exit id => exact ⟨_, env1, dfs1, u1, σ1, nx1, h1, ExecFrom.head hb (ExecFrom.leave (T := fun k => .code x :: k) (x := .inScope x) (fun _ _ => rfl) (by simp) h2)⟩
    | ret => exact ⟨_, env1, dfs1, u1, σ1, nx1, h1, ExecFrom.head hb (ExecFrom.leave (T := fun k => .code x :: k) (x := .inScope x) (fun _ _ => rfl) (by simp) h2)⟩
    | panic ch => exact ⟨_, env1, dfs1, u1, σ1, nx1, h1, ExecFrom.head hb (ExecFrom.leave (T := fun k => .code x :: k) (x := .inScope x) (fun _ _ => rfl) (by simp) h2)⟩
  | exit id => exact ⟨.exit id, env, dfs, u, σ, nx, h, exec_at fun b a cs w k β => ⟨k, rfl, Steps.refl _ _⟩⟩
  | ret => exact ⟨.ret, env, dfs, u, σ, nx, h, exec_at fun b a cs w k β => ⟨k, Steps.refl _ _⟩⟩
  | rangeFunc f ps x y => exact hR L hL fi f ps x y env dfs u σ nx K h
  | goto l => exact h.elim
  | refuse why => exact h.elim

theorem exec_sound' (hD : DrawOk P) (hR : RangeOk P) {L : Lv} (hL : LvOk P L) : ∀ fi code env dfs u σ nx K, execF P L fi code env (.mk dfs u σ nx) K →
    ∃ e env' dfs' u' σ' nx', K e env' (.mk dfs' u' σ' nx') ∧ ExecOk P fi code ⟨.nil, env, dfs, u, σ, nx⟩ e ⟨.nil, env', dfs', u', σ', nx'⟩ ∧ LoopOk P fi code ⟨.nil, env, dfs, u, σ, nx⟩ e ⟨.nil, env', dfs', u', σ', nx'⟩ := by
  intro fi code env dfs u σ nx K h
  by_cases hc : ∃ x, code = .loop x
  · obtain ⟨x, rfl⟩ := hc
    obtain ⟨e, env1, dfs1, u1, σ1, nx1, h1, h2⟩ := loop_sound (fi := fi) hL h
    refine ⟨e, env1, dfs1, u1, σ1, nx1, h1, ExecFrom.head (fun b a cs w k => .one stepR_loop) h2, fun y hy => ?_⟩
    cases hy
    exact ExecFrom.head (fun b a cs w k => .one stepR_inLoop) h2
  · obtain ⟨e, env1, dfs1, u1, σ1, nx1, h1, h2⟩ := exec_sound hD hR hL fi code env dfs u σ nx K h
    exact ⟨e, env1, dfs1, u1, σ1, nx1, h1, h2, fun y hy => (hc ⟨y, hy⟩).elim⟩
end
end Go.AE
namespace Go.AE
open Go

theorem env0_spec : ∀ (args : List AV) (i : Pos) (e : Env) {c : Env → Prop}, env0 args i e c →
    ∃ e', c e' ∧ ∀ p, T.get p e' = if i.toNat ≤ p.toNat ∧ p.toNat < i.toNat + args.length then args[p.toNat - i.toNat]? else T.get p e
  | [], i, e, c, h => ⟨e, h, fun p => by rw [if_neg]; intro h; simp at h; omega⟩
  | v :: args, i, e, c, h => by
    have h' : T.set i e (some v) fun e => env0 args i.succ e c := h
    obtain ⟨e1, h1, h2⟩ := T.set_spec _ _ _ _ h'
    obtain ⟨e2, h3, h4⟩ := env0_spec args i.succ e1 h1
    refine ⟨e2, h3, fun p => ?_⟩
    rw [h4, h2, Pos.toNat_succ]
    simp only [List.length_cons]
    by_cases hp : p = i
    · subst hp
      rw [if_neg (by omega), if_pos rfl, if_pos (by omega)]
      simp
    · have hne : p.toNat ≠ i.toNat := fun h => hp (Pos.toNat_inj h)
      rw [if_neg hp]
      by_cases hr : i.toNat + 1 ≤ p.toNat ∧ p.toNat < i.toNat + 1 + args.length
      · rw [if_pos hr, if_pos (by omega)]
        rw [show p.toNat - i.toNat = (p.toNat - (i.toNat + 1)) + 1 by omega, List.getElem?_cons_succ]
      · rw [if_neg hr, if_neg (by omega)]

section
variable {P : Program} {m : Nat}

/-- one result, as the machine reads it -/
def resSem (tmps : Array Value) : ResultVar → Sem Value
  | .tmp t => pure (tmps.getD t undef)
  | .cell a t => do loadVar t (← asAddr (tmps.getD a undef))

theorem EnvR.getD {β : Be} {l : Loc} {e : Env} {tmps : Array Value} (h : EnvR β m l e tmps) {t : Nat} {v : AV} (hv : look m l e t = some v) : VR β v (tmps.getD t undef) := by
  obtain ⟨v', h1, h2⟩ := h t v hv
  rw [Array.getD_eq_getD_getElem?, h1]; exact h2

theorem resK_spec {mk nt : FuncId → Nat} {r : ResultVar} {env : Env} {σ : Heap} {c : AV → Prop} (h : resK (compRes P m r) env σ c) :
    ∃ v, c v ∧ ∀ β w tmps, Rel mk nt β (hof σ) w → EnvR β m .nil env tmps → ∃ v', VR β v v' ∧ (resSem tmps r).run P w = .ok v' w := by
  cases r with
  | tmp t =>
    simp only [compRes] at h
    by_cases hb : bit m t = true
    · rw [hb] at h
      have h' : Option.rec (motive := fun _ => Prop) False c (T.get (Pos.ofNat t) env) := h
      cases hg : T.get (Pos.ofNat t) env with
      | none => rw [hg] at h'; exact h'.elim
      | some v =>
        rw [hg] at h'
        exact ⟨v, h', fun β w tmps R he => ⟨_, he.getD (by unfold look; rw [if_pos hb, hg]), rfl⟩⟩
    · have hb' : bit m t = false := by simpa using hb
      rw [hb'] at h; exact h.elim
  | cell a t =>
    simp only [compRes] at h
    split at h
    · rename_i n g hz hg
      by_cases hb : bit m a = true
      · rw [hb] at h
        have h' : Option.rec (motive := fun _ => Prop) False (fun v => ite' g (loadA n v σ c) (load1 v σ c)) (T.get (Pos.ofNat a) env) := h
        cases hga : T.get (Pos.ofNat a) env with
        | none => rw [hga] at h'; exact h'.elim
        | some v =>
          rw [hga] at h'
          have hlk : look m .nil env a = some v := by unfold look; rw [if_pos hb, hga]
          cases g with
          | true =>
            obtain ⟨id, off, rfl, h1⟩ := onPtr_spec (show v.onPtr _ from h')
            obtain ⟨cs, rd, lo, hi, anc, h2, h3, h4⟩ := readCells_spec h1
            refine ⟨_, h4, fun β w tmps R he => ?_⟩
            obtain ⟨b, base, tot, hbb, hv⟩ := (he.getD hlk).ptr_inv
            obtain ⟨l', q1, q2, _, q4⟩ := cells_read (R.obj id _ _ h2 hbb) h3
            refine ⟨.agg ⟨l'⟩, .agg _ _ q1, ?_⟩
            have := run_loadCells_list (P := P) w ⟨b, base + off, none⟩ l' q4
            rw [q2] at this
            simp [resSem, hv, asAddr, loadVar, run_isAgg hg, run_sizeOf hz, this]
          | false =>
            obtain ⟨id, off, rfl, h1⟩ := onPtr_spec (show v.onPtr _ from h')
            obtain ⟨cs, rd, lo, hi, anc, v, h2, h3, h4⟩ := readCell_spec h1
            have hlt := (List.getElem?_eq_some_iff.1 h3).1
            refine ⟨v, h4, fun β w tmps R he => ?_⟩
            obtain ⟨b, base, tot, hbb, hv⟩ := (he.getD hlk).ptr_inv
            obtain ⟨l', q1, q2, _, q4⟩ := cells_read (R.obj id _ _ h2 hbb) (off := off) (n := 1) (by omega)
            have e1 : (cs.drop off).take 1 = [v] := by rw [List.take_one, List.head?_drop, h3]; rfl
            rw [e1] at q1
            obtain ⟨v', rfl, hvv⟩ := q1.one_inv
            have := q4 0 v' rfl
            have e0 : (Addr.add ⟨b, base + off, none⟩ 0) = ⟨b, base + off, none⟩ := rfl
            rw [e0] at this
            exact ⟨v', hvv, by simp [resSem, hv, asAddr, loadVar, run_isAgg hg, this]⟩
      · have hb' : bit m a = false := by simpa using hb
        rw [hb'] at h; exact h.elim
    · exact h.elim

theorem resultsK_spec {mk nt : FuncId → Nat} : ∀ {rs : List ResultVar} {env : Env} {σ : Heap} {c : List AV → Prop}, resultsK (rs.map (compRes P m)) env σ c →
    ∃ vs, c vs ∧ ∀ β w tmps, Rel mk nt β (hof σ) w → EnvR β m .nil env tmps → ∃ vs', VRs β vs vs' ∧ (rs.mapM (resSem tmps)).run P w = .ok vs' w
  | [], env, σ, c, h => ⟨[], h, fun β w tmps _ _ => ⟨[], .nil, by simp⟩⟩
  | r :: rs, env, σ, c, h => by
    have h' : resK (compRes P m r) env σ fun v => resultsK (rs.map (compRes P m)) env σ fun vs => c (v :: vs) := h
    obtain ⟨v, h1, h2⟩ := resK_spec (mk := mk) (nt := nt) h'
    obtain ⟨vs, h3, h4⟩ := resultsK_spec (mk := mk) (nt := nt) h1
    refine ⟨v :: vs, h3, fun β w tmps R he => ?_⟩
    obtain ⟨v', q1, q2⟩ := h2 β w tmps R he
    obtain ⟨vs', q3, q4⟩ := h4 β w tmps R he
    exact ⟨v' :: vs', .cons _ _ _ _ q1 q3, by simp [List.mapM_cons, q2, q4]⟩

theorem finK_spec {mk nt : FuncId → Nat} {fn : Func} {env : Env} {σ : Heap} {c : AV → Prop} (h : resultsK (fn.results.toList.map (compRes P m)) env σ fun vs => oneOr vs c) :
    ∃ v, c v ∧ ∀ β w tmps, Rel mk nt β (hof σ) w → EnvR β m .nil env tmps → ∃ v', VR β v v' ∧ (results fn tmps).run P w = .ok v' w := by
  obtain ⟨vs, h1, h2⟩ := resultsK_spec (mk := mk) (nt := nt) h
  have hres : ∀ tmps, results fn tmps = (do let vs ← fn.results.mapM (resSem tmps); pure (if h : vs.size = 1 then vs[0] else .tuple vs)) := by
    intro tmps
    have hf : (fun r : ResultVar => match r with | .tmp t => (pure (tmps.getD t undef) : Sem Value) | .cell a t => do loadVar t (← asAddr (tmps.getD a undef))) = resSem tmps := by
      funext r; cases r <;> rfl
    rw [← hf]
    rfl
  have hrun : ∀ tmps w vs', (fn.results.toList.mapM (resSem tmps)).run P w = .ok vs' w → (results fn tmps).run P w = .ok (if h : vs'.length = 1 then vs'[0] else .tuple ⟨vs'⟩) w := by
    intro tmps w vs' hr
    rw [hres, Array.mapM_eq_mapM_toList]
    simp [hr]
  cases vs with
  | nil =>
    refine ⟨_, h1, fun β w tmps R he => ?_⟩
    obtain ⟨vs', q1, q2⟩ := h2 β w tmps R he
    cases q1
    exact ⟨_, .tuple [] [] .nil, hrun tmps w [] q2⟩
  | cons v vs =>
    cases vs with
    | nil =>
      refine ⟨v, h1, fun β w tmps R he => ?_⟩
      obtain ⟨vs', q1, q2⟩ := h2 β w tmps R he
      obtain ⟨v', rfl, hv⟩ := q1.one_inv
      exact ⟨v', hv, hrun tmps w [v'] q2⟩
    | cons v2 vs =>
      refine ⟨_, h1, fun β w tmps R he => ?_⟩
      obtain ⟨vs', q1, q2⟩ := h2 β w tmps R he
      have hl := q1.length
      refine ⟨.tuple ⟨vs'⟩, .tuple _ _ q1, ?_⟩
      rw [hrun tmps w vs' q2, dif_neg (by rw [← hl]; simp)]
end
end Go.AE
namespace Go.AE
open Go

section
variable {mk nt : FuncId → Nat}
/-- an object is forgotten -/
theorem unset_rel {β : Be} {h : HO} {w w' : World} (R : Rel mk nt β h w) {id : Pos} {o : AObj} (hid : h id = some o) {x : Nat × Nat × Nat} (hb : β id = some x) (ho : ∀ cs rd lo hi anc, o ≠ .cells cs rd lo hi anc)
    (hk : ∀ b', b' ≠ x.1 → w'.heap[b']? = w.heap[b']?) : Rel mk nt β (upd h id none) w' := by
  have apart : ∀ j oj xj, j ≠ id → h j = some oj → β j = some xj → xj.1 ≠ x.1 := by
    intro j oj xj hne hj hbj hbb
    have := R.sep id j _ _ _ _ (fun h => hne h.symm) hid hj hb hbj hbb.symm
    cases o <;> first | exact ho _ _ _ _ _ rfl | simp [Share] at this
  have back : ∀ q p, upd h id none q = some p → q ≠ id ∧ h q = some p := by
    intro q p hq
    by_cases e : q = id
    · simp [upd, e] at hq
    · simp only [upd, e, if_false] at hq; exact ⟨e, hq⟩
  refine ⟨R.g0, fun q p y hq hy => ?_, fun i j oi oj xi xj hne hi hj bi bj hbb => ?_⟩
  · obtain ⟨e, hq⟩ := back q p hq
    exact (R.obj q p y hq hy).heap (hk _ (apart q p y e hq hy))
  · exact R.sep i j oi oj xi xj hne (back i oi hi).2 (back j oj hj).2 bi bj hbb
theorem unset_fr {β : Be} {h : HO} {w w' : World} {nx : Pos} {id : Pos} {o : AObj} (hid : h id = some o) {x : Nat × Nat × Nat} (hb : β id = some x)
    (h1 : w'.heap.size = w.heap.size) (h2 : ∀ b', b' ≠ x.1 → w'.heap[b']? = w.heap[b']?) (h3 : w'.os = w.os) (h4 : w'.tape = w.tape) (h5 : w'.output = w.output) :
    Fr β h w nx β (upd h id none) w' nx := by
  refine ⟨Nat.le_refl _, fun _ _ => rfl, by omega, ?_, ?_, h3, h4, h5⟩
  · intro b' _ hc
    exact h2 b' fun e => hc ⟨id, o, _, hid, hb, e.symm⟩
  · intro b' _ ⟨q, p, y, hq, hy, hyb⟩
    by_cases e : q = id
    · simp [upd, e] at hq
    · simp only [upd, e, if_false] at hq; exact ⟨q, p, y, hq, hy, hyb⟩
end

/-- the deferred calls of a frame -/
def LeaveOk (P : Program) (dfs : List DF) (m : Option (List (AV × Bool))) (σ : Heap) (nx : Pos) (m' : Option (List (AV × Bool))) (σ' : Heap) (nx' : Pos) : Prop :=
  nx.toNat ≤ nx'.toNat ∧ ∀ β (fr : Frame) (cs : List Frame) w, ModeR β m fr.mode → DfR β dfs fr.defers → Rel (maskOf P) (ntmpsOf P) β (hof σ) w → Free β nx nx' →
    ∃ β' md' w', Steps P (lone fr cs w) (lone { fr with defers := [], mode := md' } cs w') ∧ ModeR β' m' md' ∧ Rel (maskOf P) (ntmpsOf P) β' (hof σ') w' ∧ Fr β (hof σ) w nx β' (hof σ') w' nx'

section
variable {P : Program} {fr : Frame} {cs : List Frame} {w w' : World}

theorem ModeR.notRun {β : Be} {m : Option (List (AV × Bool))} {md : FrameMode} (h : ModeR β m md) : md ≠ .run := by
  cases m with
  | none => rw [show md = .returning from h]; simp
  | some ch => obtain ⟨ch', rfl, _⟩ := h; simp

theorem step_unwind {s : GStep} (hm : fr.mode ≠ .run) (h : unwind P true fr cs none w = s) : stepG P true { frame := fr, callers := cs, status := .running, dying := none } w = s := by
  cases hmd : fr.mode with
  | run => exact (hm hmd).elim
  | returning => simp only [stepG, hmd]; exact h
  | panicking ch => simp only [stepG, hmd]; exact h

theorem step_collected {r : Nat} {ds : List Deferred} (hm : fr.mode ≠ .run) (hd : fr.defers = { target := .collected r, args := #[] } :: ds) (h : (Instr.takeDeferred r).run P w = .ok [] w') :
    step P (lone fr cs w) = .next (lone { fr with defers := ds } cs w') := by
  refine step_lone_go ?_
  rw [step_unwind hm rfl]
  unfold unwind
  rw [hd]
  simp [Sem.runT_eq, h]

theorem step_deferred_enter {d : Deferred} {ds : List Deferred} {g : FuncId} {cap : Array Value} {f : FuncId} {args : Array Value} (hm : fr.mode ≠ .run) (hd : fr.defers = d :: ds) (ht : d.target = .fn (.func g) cap) (h : (callFunc g (d.args ++ cap)).run P w = .ok (.enter f args) w') :
    step P (lone fr cs w) = .next (lone (Frame.enter P f args .deferred) ({ fr with defers := ds } :: cs) w') := by
  refine step_lone_go ?_
  rw [step_unwind hm rfl]
  obtain ⟨tg, ar⟩ := d
  simp only at ht h
  subst ht
  unfold unwind
  rw [hd]
  have hi : (invoke (.fn (.func g) cap) ar).run P w = .ok (.enter f args) w' := h
  simp [callDeferred, Sem.runT_eq, hi]

theorem step_deferred_value {d : Deferred} {ds : List Deferred} {g : FuncId} {cap : Array Value} {v : Value} (hm : fr.mode ≠ .run) (hd : fr.defers = d :: ds) (ht : d.target = .fn (.func g) cap) (h : (callFunc g (d.args ++ cap)).run P w = .ok (.value v) w') :
    step P (lone fr cs w) = .next (lone { fr with defers := ds } cs w') := by
  refine step_lone_go ?_
  rw [step_unwind hm rfl]
  obtain ⟨tg, ar⟩ := d
  simp only at ht h
  subst ht
  unfold unwind
  rw [hd]
  have hi : (invoke (.fn (.func g) cap) ar).run P w = .ok (.value v) w' := h
  simp [callDeferred, Sem.runT_eq, hi]

theorem ChR.noExit {β : Be} : ∀ {l : List (AV × Bool)} {l' : List PanicEntry}, ChR β l l' → l'.dropWhile (!·.goexit) = []
  | _, _, .nil => rfl
  | _, _, .cons v v' t l l' h hs => by simp [List.dropWhile, ChR.noExit hs]

/-- a deferred call returns -/
theorem step_leave_deferred {β : Be} {m : Option (List (AV × Bool))} {c : Frame} (hc : ModeR β m c.mode) {v : Value} {fn : Func} (hm : fr.mode = .returning) (hd : fr.defers = []) (hk : fr.kind = .deferred) (hf : P.funcs[fr.fn]? = some fn)
    (hr : (results fn fr.tmps).run P w = .ok v w) : ∃ md', ModeR β (settleU m) md' ∧ step P (lone fr (c :: cs) w) = .next (lone { c with mode := md' } cs w) := by
  have key : ∀ s : GStep, unwind P true fr (c :: cs) none w = s → stepG P true { frame := fr, callers := c :: cs, status := .running, dying := none } w = s := fun s h => step_unwind (by rw [hm]; simp) h
  obtain ⟨cf, ctm, ctd, cdf, cmd, ckd, cro⟩ := c
  simp only at hc
  cases m with
  | none =>
    cases hc
    refine ⟨.returning, rfl, step_lone_go ?_⟩
    rw [key _ rfl]
    unfold unwind
    rw [hd, hm, hf]
    simp [Sem.runT_eq, hr, doReturn, hk]
  | some ch =>
    obtain ⟨ch', rfl, hch⟩ := hc
    cases hch with
    | nil =>
      refine ⟨.panicking [], ⟨[], rfl, .nil⟩, step_lone_go ?_⟩
      rw [key _ rfl]
      unfold unwind
      rw [hd, hm, hf]
      simp [Sem.runT_eq, hr, doReturn, hk]
    | cons v v' t l l' h hs =>
      cases t with
      | true =>
        refine ⟨.returning, rfl, step_lone_go ?_⟩
        rw [key _ rfl]
        unfold unwind
        rw [hd, hm, hf]
        simp [Sem.runT_eq, hr, doReturn, hk, hs.noExit]
      | false =>
        refine ⟨.panicking ({ v := v', recovered := false } :: l'), ⟨_, rfl, .cons _ _ _ _ _ h hs⟩, step_lone_go ?_⟩
        rw [key _ rfl]
        unfold unwind
        rw [hd, hm, hf]
        simp [Sem.runT_eq, hr, doReturn, hk]
end
end Go.AE
namespace Go.AE
open Go

section
variable {P : Program} {L : Lv}

theorem settled_same {β β' : Be} {m m1 : Option (List (AV × Bool))} {md : FrameMode} (h : ModeR β m md) (hs : settled m = true) (h1 : ModeR β' m1 md) : settleU m1 = m1 := by
  cases m1 with
  | none => rfl
  | some ch1 =>
    obtain ⟨ch', rfl, hch⟩ := h1
    cases m with
    | none => cases h
    | some ch =>
      obtain ⟨ch2, he, hch2⟩ := h
      cases he
      cases hch with
      | nil => rfl
      | cons v v' t l l' hv hl =>
        cases hch2 with
        | cons v2 _ _ l2 _ _ _ =>
          cases t with
          | true => simp [settled] at hs
          | false => rfl

theorem raise_mode {β : Be} {m : Option (List (AV × Bool))} {c : Frame} (hc : ModeR β m c.mode) {ch : List (AV × Bool)} {ch' : List PanicEntry} (h : ChR β ch ch') : ∃ md', ModeR β (raisedU m ch) md' ∧ c.raise ch' = { c with mode := md' } := by
  obtain ⟨cf, ctm, ctd, cdf, cmd, ckd, cro⟩ := c
  simp only at hc
  cases m with
  | none => cases hc; exact ⟨.panicking ch', ⟨ch', rfl, h⟩, rfl⟩
  | some old => obtain ⟨o', rfl, ho⟩ := hc; exact ⟨.panicking (ch' ++ o'), ⟨_, rfl, h.append ho⟩, rfl⟩

theorem leave_sound (hL : LvOk P L) : ∀ (dfs : List DF) (m : Option (List (AV × Bool))) (σ : Heap) (nx : Pos) {c : Option (List (AV × Bool)) → Heap → Pos → Prop}, leave L dfs m σ nx c →
    ∃ m' σ' nx', c m' σ' nx' ∧ LeaveOk P dfs m σ nx m' σ' nx'
  | [], m, σ, nx, c, h => by
    refine ⟨m, σ, nx, h, Nat.le_refl _, fun β fr cs w hm hd R _ => ⟨β, fr.mode, w, ?_, hm, R, Fr.refl _ _ _ _⟩⟩
    have hde : fr.defers = [] := by cases hdd : fr.defers with
      | nil => rfl
      | cons a b => rw [hdd] at hd; cases hd
    have : ({ fr with defers := [], mode := fr.mode } : Frame) = fr := by cases fr; simp only at hde; subst hde; rfl
    rw [this]
    exact Steps.refl _ _
  | .coll id :: dfs, m, σ, nx, c, h => by
    have h' : withObj σ id fun o => (match o with | .dfr => T.set id σ none fun σ => leave L dfs m σ nx c | _ => False) := h
    obtain ⟨o, ho, h1⟩ := withObj_spec h'
    rcases o with _ | _ | _ | _ | _ <;> (try exact h1.elim)
    obtain ⟨σ1, h2, h3⟩ := set_spec h1
    obtain ⟨m', σ', nx', h4, h5⟩ := leave_sound hL dfs m σ1 nx h2
    refine ⟨m', σ', nx', h4, h5.1, fun β fr cs w hm hd R hf => ?_⟩
    generalize hdd : fr.defers = ds0 at hd
    cases hd with
    | coll _ r y _ ds hb hds =>
      have q1 : w.heap[r]? = some (.deferred (some [])) := R.obj id _ _ ho hb
      let w1 : World := { w with heap := w.heap.setIfInBounds r (.deferred none) }
      have hrun : (Instr.takeDeferred r).run P w = .ok [] w1 := by
        simp [Instr.takeDeferred, getObj, setObj, Sem.run, q1, w1]
      have hoth : ∀ b', b' ≠ r → w1.heap[b']? = w.heap[b']? := by
        intro b' hne
        simp only [w1, Array.getElem?_setIfInBounds]
        rw [if_neg (fun h => hne h.symm)]
      have R1 := unset_rel (w' := w1) R ho hb (by simp) hoth
      have F1 := unset_fr (h := hof σ) (w := w) (w' := w1) (nx := nx) ho hb (by simp [w1]) hoth rfl rfl rfl
      rw [← h3] at R1 F1
      have st := step_collected (P := P) (fr := fr) (cs := cs) (w := w) (w' := w1) (ds := ds) hm.notRun hdd hrun
      obtain ⟨β', md', w', s1, s2, s3, s4⟩ := h5.2 β { fr with defers := ds } cs w1 hm hds R1 (hf.right F1)
      exact ⟨β', md', w', Steps.head st s1, s2, s3, F1.trans s4⟩
  | .call f args :: dfs, m, σ, nx, c, h => by
    cases f
    case func fn first cap =>
      cases fn
      case func g =>
        cases hs : settled m with
        | false =>
          exfalso
          have h' : (match (AV.func (.func g) first cap), settled m with
            | .func (.func g) first cap, true => L.call g (first ++ args ++ cap) (some m) σ nx fun r u σ nx => (match u with
              | some m' => (match r with | .ret _ => leave L dfs (settleU m') σ nx c | .pan ch => leave L dfs (raisedU m' ch) σ nx c)
              | none => False)
            | _, _ => False) := h
          rw [hs] at h'
          exact h'
        | true =>
          have h' : (match (AV.func (.func g) first cap), settled m with
            | .func (.func g) first cap, true => L.call g (first ++ args ++ cap) (some m) σ nx fun r u σ nx => (match u with
              | some m' => (match r with | .ret _ => leave L dfs (settleU m') σ nx c | .pan ch => leave L dfs (raisedU m' ch) σ nx c)
              | none => False)
            | _, _ => False) := h
          rw [hs] at h'
          obtain ⟨r, u', σ1, nx1, h1, h2⟩ := hL.call _ _ _ _ _ _ h'
          cases u' with
          | none => exact h1.elim
          | some m1 =>
            have hnext : ∃ m2, (match r with | .ret _ => m2 = settleU m1 | .pan ch => m2 = raisedU m1 ch) ∧ leave L dfs m2 σ1 nx1 c := by
              cases r with
              | ret v => exact ⟨_, rfl, h1⟩
              | pan ch => exact ⟨_, rfl, h1⟩
            obtain ⟨m2, hm2, h3⟩ := hnext
            obtain ⟨m', σ', nx', h4, h5⟩ := leave_sound hL dfs m2 σ1 nx1 h3
            refine ⟨m', σ', nx', h4, Nat.le_trans h2.1 h5.1, fun β fr cs w hm hd R hf => ?_⟩
            generalize hdd : fr.defers = ds0 at hd
            cases hd with
            | call _ _ _ _ x' c' args' _ ds hx hc ha hds =>
              obtain ⟨β1, md1, w1, R1, U1, F1, hcase⟩ := h2.2 β w (x' ++ args' ++ c') .deferred (some fr.mode) ({ fr with defers := ds } :: cs) ((hx.append ha).append hc) R ⟨rfl, by simp, fr.mode, rfl, hm⟩ (hf.left h5.1)
              have hb1 := F1.mono (hf.left h5.1)
              obtain ⟨_, _, x1, rfl, hx1⟩ := U1
              have hargs : ((⟨x' ++ args'⟩ : Array Value) ++ ⟨c'⟩) = ⟨x' ++ args' ++ c'⟩ := by apply Array.ext'; simp
              have fin : ∀ md2, ModeR β1 m2 md2 → Steps P (lone fr cs w) (lone { fr with defers := ds, mode := md2 } cs w1) →
                  ∃ β' md' w', Steps P (lone fr cs w) (lone { fr with defers := [], mode := md' } cs w') ∧ ModeR β' m' md' ∧ Rel (maskOf P) (ntmpsOf P) β' (hof σ') w' ∧ Fr β (hof σ) w nx β' (hof σ') w' nx' := by
                intro md2 hmd2 hst
                obtain ⟨β', md', w', s1, s2, s3, s4⟩ := h5.2 β1 { fr with defers := ds, mode := md2 } cs w1 hmd2 (hds.mono hb1) R1 (hf.right F1)
                exact ⟨β', md', w', hst.trans s1, s2, s3, F1.trans s4⟩
              rcases hcase with ⟨v0, v', rfl, hv, hrun, hmd⟩ | ⟨hrun, fr2, hst, hend⟩
              · cases hmd
                simp only at hm2
                rw [settled_same hm hs hx1] at hm2
                subst hm2
                refine fin fr.mode hx1 (.one ?_)
                exact step_deferred_value (P := P) (fr := fr) (cs := cs) (ds := ds) hm.notRun hdd rfl (by rw [hargs]; exact hrun)
              · have st := step_deferred_enter (P := P) (fr := fr) (cs := cs) (ds := ds) hm.notRun hdd rfl (by rw [hargs]; exact hrun)
                obtain ⟨e1, e2, e3, fn, e4, e5⟩ := hend
                cases r with
                | ret v =>
                  obtain ⟨e5, v', hv, e6⟩ := e5
                  simp only at hm2
                  subst hm2
                  obtain ⟨md2, z1, z2⟩ := step_leave_deferred (P := P) (fr := fr2) (cs := cs) (w := w1) (c := { fr with defers := ds, mode := x1 }) hx1 e5 e2 e3 (by rw [e1]; exact e4) e6
                  exact fin md2 z1 (Steps.head st (hst.trans (.one z2)))
                | pan ch =>
                  obtain ⟨ch', hch, e5⟩ := e5
                  simp only at hm2
                  subst hm2
                  have z2 := step_leave_panicked (P := P) (fr := fr2) (c := { fr with defers := ds, mode := x1 }) (cs := cs) (w := w1) (chain := ch') ⟨e5, e2, fn, by rw [e1]; exact e4⟩
                  obtain ⟨md2, z1, z3⟩ := raise_mode (c := { fr with defers := ds, mode := x1 }) hx1 hch
                  rw [z3] at z2
                  exact fin md2 z1 (Steps.head st (hst.trans (.one z2)))
      all_goals exact h.elim
    all_goals exact h.elim
end
end Go.AE
namespace Go.AE
open Go

section
variable {P : Program} {L : Lv}

theorem callFunc_enter {f : FuncId} {fn : Func} {code : Code} {args : Array Value} {w : World} (hf : P.funcs[f]? = some fn) (hb : fn.body = some code) (hn : (fn.name == "runtime.NumGoroutine") = false) :
    (callFunc f args).run P w = .ok (.enter f args) w := by
  simp only [callFunc, Sem.run_bind, run_program, Result.andThen_ok, hf, hn, hb]
  simp

theorem ntmpsOf_eq {f : FuncId} {fn : Func} (h : nthO P.funcs.toList f = some fn) : ntmpsOf P f = fn.ntmps := by
  unfold ntmpsOf; rw [h]

/-- a call of a function with a body -/
theorem call_body (hL : LvOk P L) {f : FuncId} {fn : Func} {code : Code} (hfn : nthO P.funcs.toList f = some fn) (hbody : fn.body = some code) (hname : (fn.name == "runtime.NumGoroutine") = false) {args : List AV} (hargs : args.length ≤ fn.ntmps) {u : U} {σ : Heap} {nx : Pos} {c : KR}
    (h : env0 args .h .lf fun env => L.exec { fid := f, rnd := none } code env (.mk [] u σ nx) fun e env w => endMode e fun m =>
      W.rec (motive := fun _ => Prop) (fun dfs u σ nx => leave L dfs m σ nx fun m σ nx => finK P (maskOf P f) fn env u m σ nx c) w) :
    ∃ r u' σ' nx', c r u' σ' nx' ∧ CallOk P f args u σ nx r u' σ' nx' := by
  have hf : P.funcs[f]? = some fn := by rw [nthO_spec] at hfn; simpa using hfn
  obtain ⟨env, h1, henv⟩ := env0_spec args .h .lf h
  obtain ⟨e, env1, dfs1, u1, σ1, nx1, h2, h3, _⟩ := hL.exec _ _ _ _ _ _ _ _ h1
  have h2' : ∃ m, leave L dfs1 m σ1 nx1 (fun m σ nx => finK P (maskOf P f) fn env1 u1 m σ nx c) ∧ ((m = none ∧ (e = .normal ∨ e = .ret)) ∨ ∃ ch, m = some ch ∧ e = .panic ch) := by
    cases e with
    | normal => exact ⟨none, h2, .inl ⟨rfl, .inl rfl⟩⟩
    | ret => exact ⟨none, h2, .inl ⟨rfl, .inr rfl⟩⟩
    | panic ch => exact ⟨some ch, h2, .inr ⟨ch, rfl, rfl⟩⟩
    | exit id => exact h2.elim
  obtain ⟨m, h4, hme⟩ := h2'
  obtain ⟨m', σ', nx', h5, h6⟩ := leave_sound hL _ _ _ _ h4
  have h7 : ∃ r, c r u1 σ' nx' ∧ ((∃ v, r = .ret v ∧ m' = none ∧ ∀ β w tmps, Rel (maskOf P) (ntmpsOf P) β (hof σ') w → EnvR β (maskOf P f) .nil env1 tmps → ∃ v', VR β v v' ∧ (results fn tmps).run P w = .ok v' w) ∨ ∃ ch, r = .pan ch ∧ m' = some ch) := by
    cases m' with
    | none =>
      obtain ⟨v, q1, q2⟩ := finK_spec (mk := maskOf P) (nt := ntmpsOf P) (c := fun v => c (.ret v) u1 σ' nx') h5
      exact ⟨_, q1, .inl ⟨v, rfl, rfl, q2⟩⟩
    | some ch => exact ⟨_, h5, .inr ⟨ch, rfl, rfl⟩⟩
  obtain ⟨r, h8, h9⟩ := h7
  refine ⟨r, u1, σ', nx', h8, Nat.le_trans h3.1 h6.1, fun β w args' kind md cs0 hva R hu hfree => ?_⟩
  have hal := hva.length
  let b : Frame := Frame.enter P f ⟨args'⟩ kind
  let a0 : Act := ⟨b.tmps, []⟩
  have hbat : b.atR a0 [.code code] = b := by
    simp only [b, a0, Frame.atR, Frame.enter, hf, Option.map_some, Option.bind_some, Option.getD_some, hbody]
  have htm : b.tmps = ⟨args'⟩ ++ Array.replicate (fn.ntmps - args'.length) undef := by
    simp [b, Frame.enter, hf]
  have hst : StR P { fid := f, rnd := none } ⟨.nil, env, [], u, σ, nx⟩ β b a0 md cs0 w := by
    refine ⟨rfl, rfl, hu, ?_, ?_, .nil, R⟩
    · intro t v hv
      unfold look at hv
      by_cases hbit : bit (maskOf P f) t = true
      · rw [if_pos hbit, henv, Pos.toNat_ofNat] at hv
        have h0 : Pos.toNat .h = 0 := rfl
        simp only [h0, Nat.zero_le, true_and, Nat.zero_add, Nat.sub_zero, T.get_lf] at hv
        by_cases hlt : t < args.length
        · rw [if_pos hlt] at hv
          obtain ⟨v', q1, q2⟩ := hva.get hv
          refine ⟨v', ?_, q2⟩
          show b.tmps[t]? = _
          rw [htm, Array.getElem?_append_left (by simp; omega)]
          simpa using q1
        · rw [if_neg hlt] at hv; cases hv
      · rw [if_neg hbit] at hv; simp [Loc.get] at hv
    · show b.tmps.size = ntmpsOf P f
      rw [htm, ntmpsOf_eq hfn]
      simp; omega
  obtain ⟨β1, a1, md1, w1, q1, q2, q3⟩ := h3.2 β b a0 md cs0 w [] hst (hfree.left h6.1)
  -- to the end of the body
  have q4 : ∃ todo mode, Steps P (lone b (withMode md cs0) w) (lone { b.atR a1 todo with mode := mode } (withMode md1 cs0) w1) ∧ ModeR β1 m mode := by
    rw [hbat] at q1
    have hro : b.roundOf = none := rfl
    rcases hme with ⟨rfl, rfl | rfl⟩ | ⟨ch, rfl, rfl⟩
    · exact ⟨[], .returning, Steps.trans q1 (.one (stepR_end hro)), rfl⟩
    · obtain ⟨k2, q1⟩ := q1
      exact ⟨_, .returning, Steps.trans q1 (.one (stepR_ret hro)), rfl⟩
    · obtain ⟨todo, ch', z1, z2⟩ := q1
      exact ⟨todo, .panicking ch', z2, ch', rfl, z1⟩
  obtain ⟨todo, mode, q5, q6⟩ := q4
  obtain ⟨β2, md2, w2, z1, z2, z3, z4⟩ := h6.2 β1 { b.atR a1 todo with mode := mode } (withMode md1 cs0) w1 q6 q2.dfs q2.rel (hfree.right q3)
  have hb2 := z4.mono (hfree.right q3)
  refine ⟨β2, md1, w2, z3, q2.u.mono hb2, q3.trans z4, .inr ⟨callFunc_enter hf hbody hname, _, q5.trans z1, rfl, rfl, rfl, fn, hf, ?_⟩⟩
  rcases h9 with ⟨v, rfl, rfl, hres⟩ | ⟨ch, rfl, rfl⟩
  · obtain ⟨v', y1, y2⟩ := hres β2 w2 a1.tmps z3 (q2.env.mono hb2)
    exact ⟨z2, v', y1, y2⟩
  · obtain ⟨ch', y1, y2⟩ := z2
    exact ⟨ch', y2, y1⟩
end
end Go.AE
namespace Go.AE
open Go

section
variable {P : Program} {L : Lv}

theorem bind_spec {m : Nat} : ∀ (ps : List Tmp) (vs : List AV) (e : Env) {c : Env → Prop}, bindParams ps vs e c →
    ∃ e', c e' ∧ ps.length = vs.length ∧ ∀ β (tmps : Array Value) (vs' : List Value), EnvR β m .nil e tmps → VRs β vs vs' → (∀ t ∈ ps, t < tmps.size) →
      EnvR β m .nil e' ((ps.zip vs').foldl (fun (tmps : Array Value) (p : Tmp × Value) => tmps.setIfInBounds p.1 p.2) tmps)
  | [], [], e, c, h => ⟨e, h, rfl, fun β tmps vs' he hv _ => by simpa using he⟩
  | [], _ :: _, e, c, h => h.elim
  | p :: ps, [], e, c, h => h.elim
  | p :: ps, v :: vs, e, c, h => by
    have h' : T.set (Pos.ofNat p) e (some v) fun e => bindParams ps vs e c := h
    obtain ⟨e1, h1, h2⟩ := T.set_spec _ _ _ _ h'
    obtain ⟨e2, h3, h4, h5⟩ := bind_spec (m := m) ps vs e1 h1
    refine ⟨e2, h3, by simp [h4], fun β tmps vs' he hv hp => ?_⟩
    cases hv with
    | cons _ v' _ l' hv hs =>
      simp only [List.zip_cons_cons, List.foldl_cons]
      have hlt := hp p (by simp)
      refine h5 β (tmps.setIfInBounds p v') l' ?_ hs (fun t ht => by simpa using hp t (by simp [ht]))
      intro t x hx
      unfold look at hx
      by_cases hb : bit m t = true
      · rw [if_pos hb, h2] at hx
        by_cases ht : t = p
        · subst ht
          rw [if_pos rfl] at hx
          simp only [Option.some.injEq] at hx
          subst hx
          exact ⟨v', by simp [hlt], hv⟩
        · have hne : ¬ Pos.ofNat t = Pos.ofNat p := fun h => ht (Pos.ofNat_inj h)
          rw [if_neg hne] at hx
          obtain ⟨x', q1, q2⟩ := he t x (by unfold look; rw [if_pos hb]; exact hx)
          refine ⟨x', ?_, q2⟩
          rw [Array.getElem?_setIfInBounds, if_neg (fun h => ht h.symm)]
          exact q1
      · rw [if_neg hb] at hx; simp [Loc.get] at hx
theorem fold_size : ∀ (ps : List (Tmp × Value)) (tmps : Array Value), (ps.foldl (fun (tmps : Array Value) (p : Tmp × Value) => tmps.setIfInBounds p.1 p.2) tmps).size = tmps.size
  | [], tmps => rfl
  | p :: ps, tmps => by simp only [List.foldl_cons]; rw [fold_size ps]; simp

/-- a loop's object is changed in its state alone -/
theorem loop_set {β : Be} {h : HO} {w : World} (R : Rel (maskOf P) (ntmpsOf P) β h w) {l : Pos} {lo : LoopObj} (hl : h l = some (.loop lo)) {bl : Nat} {x : Nat × Nat} (hb : β l = some (bl, x)) :
    ∃ r : Loop, w.heap[bl]? = some (.loop r) ∧ lo.state = r.state ∧ lo.pending = r.pending ∧ lo.fid = r.fn ∧ EnvR β (maskOf P lo.fid) .nil lo.env r.tmps ∧ r.tmps.size = ntmpsOf P lo.fid ∧ lo.params = r.params.toList ∧
      (∀ t ∈ lo.params, t < ntmpsOf P lo.fid) ∧ lo.assign = r.assign ∧ lo.body = r.body ∧
      ∀ (st : LoopState) (pd : Option Code), (setObj bl (.loop { r with state := st, pending := pd })).run P w = .ok () { w with heap := w.heap.setIfInBounds bl (.loop { r with state := st, pending := pd }) } ∧
        Rel (maskOf P) (ntmpsOf P) β (upd h l (some (.loop { lo with state := st, pending := pd }))) { w with heap := w.heap.setIfInBounds bl (.loop { r with state := st, pending := pd }) } ∧
        ∀ nx, Fr β h w nx β (upd h l (some (.loop { lo with state := st, pending := pd }))) { w with heap := w.heap.setIfInBounds bl (.loop { r with state := st, pending := pd }) } nx := by
  obtain ⟨r, q1, q2, q3, q4, q5, q6, q7, q8, q9, q10, y, q11⟩ := R.obj l _ _ hl hb
  simp only at q1
  refine ⟨r, q1, q2, q3, q4, q5, q6, q7, q8, q9, q10, fun st pd => ?_⟩
  have hbs : bl < w.heap.size := (Array.getElem?_eq_some_iff.1 q1).1
  have hoth : ∀ b', b' ≠ bl → ({ w with heap := w.heap.setIfInBounds bl (.loop { r with state := st, pending := pd }) } : World).heap[b']? = w.heap[b']? := by
    intro b' hne
    simp only [Array.getElem?_setIfInBounds]
    rw [if_neg (fun h => hne h.symm)]
  refine ⟨by simp [setObj, Sem.run, q1], set_rel R hl hb (by simp) ⟨{ r with state := st, pending := pd }, by simp [hbs], rfl, rfl, q4, q5, q6, q7, q8, q9, q10, y, q11⟩ hoth, fun nx => set_fr hl hb (by simp) hoth rfl rfl rfl⟩

theorem yield_sound (hL : LvOk P L) (l : Pos) (args : List AV) (σ : Heap) (nx : Pos) (c : AV → Heap → Pos → Prop) (h : yieldF L l args σ nx c) : ∃ v σ' nx', c v σ' nx' ∧ YieldOk P l args σ nx v σ' nx' := by
  unfold yieldF at h
  obtain ⟨o, ho, h1⟩ := withObj_spec h
  rcases o with _ | _ | lo | _ | _ <;> (try exact h1.elim)
  obtain ⟨env, h2, hlen, hbind⟩ := bind_spec (m := maskOf P lo.fid) lo.params args lo.env h1
  obtain ⟨e, env1, dfs1, u1, σ1, nx1, h3, h4, _⟩ := hL.exec _ _ _ _ _ _ _ _ h2
  cases e <;> (try exact h3.elim)
  have h3' : beginRoundK l (.mk dfs1 u1 σ1 nx1) fun w => L.exec { fid := lo.fid, rnd := some l } lo.body env1 w fun e _ w => endJump e fun j => endRoundK l j w c := h3
  obtain ⟨o2, ho2, h5⟩ := withObj_spec (show withObj σ1 l _ from h3')
  rcases o2 with _ | _ | lo2 | _ | _ <;> (try exact h5.elim)
  have h5' : lo2.state = .ready ∧ T.set l σ1 (some (.loop { lo2 with state := .busy })) fun σ => L.exec { fid := lo.fid, rnd := some l } lo.body env1 (.mk dfs1 u1 σ nx1) fun e _ w => endJump e fun j => endRoundK l j w c := by
    cases hst : lo2.state <;> simp only [hst] at h5 <;> first | exact ⟨rfl, h5⟩ | exact h5.elim
  obtain ⟨hready, h6⟩ := h5'
  obtain ⟨σ2, h7, hσ2⟩ := set_spec h6
  obtain ⟨e2, env2, dfs2, u2, σ3, nx2, h8, h9, _⟩ := hL.exec _ _ _ _ _ _ _ _ h7
  have h10 : ∃ j, ((e2 = .normal ∧ j = none) ∨ (e2 = .ret ∧ j = some .ret) ∨ ∃ id, e2 = .exit id ∧ j = some (.exit id)) ∧ endRoundK l j (.mk dfs2 u2 σ3 nx2) c := by
    cases e2 with
    | normal => exact ⟨none, .inl ⟨rfl, rfl⟩, h8⟩
    | ret => exact ⟨_, .inr (.inl ⟨rfl, rfl⟩), h8⟩
    | exit id => exact ⟨_, .inr (.inr ⟨id, rfl, rfl⟩), h8⟩
    | panic ch => exact h8.elim
  obtain ⟨j, hj, h11⟩ := h10
  obtain ⟨o3, ho3, h12⟩ := withObj_spec (show withObj σ3 l _ from h11)
  rcases o3 with _ | _ | lo3 | _ | _ <;> (try exact h12.elim)
  have h13 : dfs2 = [] ∧ ∃ st, st = (if j.isNone then LoopState.ready else LoopState.done) ∧ T.set l σ3 (some (.loop { lo3 with state := st, pending := j })) fun σ => c (.bool j.isNone) σ nx2 := by
    cases dfs2 with
    | nil => cases j <;> exact ⟨rfl, _, rfl, h12⟩
    | cons d ds => exact h12.elim
  obtain ⟨rfl, st, hst, h14⟩ := h13
  obtain ⟨σ4, h16, hσ4⟩ := set_spec h14
  refine ⟨_, σ4, nx2, h16, Nat.le_trans h4.1 h9.1, fun β w args' bl x cf cs hbl hva R hfree => ?_⟩
  obtain ⟨r, q1, _, _, q4, q5, q6, q7, q8, q9, q10, _⟩ := loop_set R ho hbl
  let tmps' : Array Value := (lo.params.zip args').foldl (fun (tmps : Array Value) (p : Tmp × Value) => tmps.setIfInBounds p.1 p.2) r.tmps
  have hpar : r.params = lo.params.toArray := by apply Array.ext'; rw [q7]
  have hrun : (Instr.yield bl ⟨args'⟩).run P w = .ok (.round bl lo.fid tmps' lo.assign lo.body) w := by
    have hsz : args'.length = lo.params.length := by rw [hlen, hva.length]
    simp [Instr.yield, Instr.getLoop, getObj, Sem.run, q1, hpar, hsz, tmps', q4, q9, q10]
  let a0 : Act := ⟨tmps', []⟩
  have hst0 : ∀ cs0, StR P { fid := lo.fid, rnd := some l } ⟨.nil, env, [], none, σ, nx⟩ β (Frame.round bl lo.fid tmps' lo.assign lo.body .normal) a0 none cs0 w := by
    intro cs0
    refine ⟨rfl, ⟨bl, x, rfl, hbl⟩, ⟨rfl, rfl⟩, ?_, ?_, .nil, R⟩
    · exact hbind β r.tmps args' q5 hva (fun t ht => by rw [q6]; exact q8 t ht)
    · show tmps'.size = _
      rw [fold_size]; exact q6
  obtain ⟨β1, a1, md1, w1, s1, s2, s3⟩ := h4.2 β _ a0 none (cf :: cs) w [.beginRound, .code lo.body] (hst0 (cf :: cs)) (hfree.left h9.1)
  have hb1 := s3.mono (hfree.left h9.1)
  have hbl1 := hb1 _ _ hbl
  obtain ⟨r2, y1, y2, y3, _, _, _, _, _, _, _, yset⟩ := loop_set s2.rel ho2 hbl1
  obtain ⟨z1, z2, z3⟩ := yset .busy lo2.pending
  have z3 := z3 nx1
  have he2 : ({ lo2 with state := .busy, pending := lo2.pending } : LoopObj) = { lo2 with state := .busy } := rfl
  rw [he2, ← hσ2] at z2 z3
  have hr2 : r2.state = .ready := by rw [← y2, hready]
  have hbegin : (Instr.beginRound bl).run P w1 = .ok () { w1 with heap := w1.heap.setIfInBounds bl (.loop { r2 with state := .busy, pending := lo2.pending }) } := by
    have hget : (getObj bl).run P w1 = .ok (.loop r2) w1 := by simp [getObj, Sem.run, y1]
    rw [y3] at z1 ⊢
    have z1' : (setObj bl (.loop { r2 with state := .busy })).run P w1 = .ok () { w1 with heap := w1.heap.setIfInBounds bl (.loop { r2 with state := .busy }) } := z1
    simp only [Instr.beginRound, Instr.getLoop, Sem.run_bind, hget, Result.andThen_ok, Sem.run_pure, z1', hr2]
  have hu1 : md1 = none := by
    have := s2.u
    cases u1 with
    | none => exact this.2
    | some mo => exact absurd this.1 (by simp [Frame.round])
  subst hu1
  have t1 := stepR_beginRound (P := P) (b := Frame.round bl lo.fid tmps' lo.assign lo.body .normal) (a := a1) (k := [.code lo.body]) (cs := withMode none (cf :: cs)) (l := bl) rfl hbegin
  have hst1 : StR P { fid := lo.fid, rnd := some l } ⟨.nil, env1, dfs1, u1, σ2, nx1⟩ β1 (Frame.round bl lo.fid tmps' lo.assign lo.body .normal) a1 none (cf :: cs) { w1 with heap := w1.heap.setIfInBounds bl (.loop { r2 with state := .busy, pending := lo2.pending }) } :=
    ⟨s2.fn, s2.rnd, s2.u, s2.env, s2.size, s2.dfs, z2⟩
  have F1 := s3.trans z3
  obtain ⟨β3, a3, md3, w3, v1, v2, v3⟩ := h9.2 β1 _ a1 none (cf :: cs) _ [] hst1 (hfree.right F1)
  have hb3 := v3.mono (hfree.right F1)
  have hbl3 := hb3 _ _ hbl1
  have hu3 : md3 = none := by
    have := v2.u
    cases u2 with
    | none => exact this.2
    | some mo => exact absurd this.1 (by simp [Frame.round])
  subst hu3
  obtain ⟨r4, x1, x2, x3, _, _, _, _, _, _, _, xset⟩ := loop_set v2.rel ho3 hbl3
  obtain ⟨p1, p2, p3⟩ := xset st j
  have p3 := p3 nx2
  rw [← hσ4] at p2 p3
  have hend : (Instr.endRound bl j).run P w3 = .ok (.bool j.isNone) { w3 with heap := w3.heap.setIfInBounds bl (.loop { r4 with state := st, pending := j }) } := by
    have hget : (getObj bl).run P w3 = .ok (.loop r4) w3 := by simp [getObj, Sem.run, x1]
    rw [hst] at p1 ⊢
    simp only [Instr.endRound, Instr.getLoop, Sem.run_bind, hget, Result.andThen_ok, Sem.run_pure, p1]
  refine ⟨β3, _, .bool j.isNone, p2, F1.trans (v3.trans p3), .bool _, lo.fid, tmps', lo.assign, lo.body, hrun, ?_⟩
  have first : Steps P (lone (Frame.round bl lo.fid tmps' lo.assign lo.body .normal) (cf :: cs) w) _ := Steps.trans s1 (.one t1)
  refine first.trans ?_
  rcases hj with ⟨rfl, rfl⟩ | ⟨rfl, rfl⟩ | ⟨id, rfl, rfl⟩
  · exact Steps.trans v1 (.one (stepR_round_end (b := Frame.round bl lo.fid tmps' lo.assign lo.body .normal) rfl rfl hend))
  · obtain ⟨k2, v1⟩ := v1
    exact Steps.trans v1 (.one (stepR_round_ret (b := Frame.round bl lo.fid tmps' lo.assign lo.body .normal) rfl rfl hend))
  · obtain ⟨k2, hk2, v1⟩ := v1
    exact Steps.trans v1 (.one (stepR_round_exit (b := Frame.round bl lo.fid tmps' lo.assign lo.body .normal) rfl rfl (by rw [hk2]; rfl) hend))
end
end Go.AE
namespace Go.AE
open Go

section
variable {P : Program}

/-- what the program's functions without a body are -/
def ExtOk (P : Program) : Prop := ∀ f fn, nthO P.funcs.toList f = some fn → fn.body = none → isIndexByte fn = true → ∀ args w, (callFunc f args).run P w = (do pure (Next.value (← Extern.BytealgIndexByte.indexByte args)) : Sem Next).run P w

theorem idxByte_spec (b : Nat) : ∀ (l : List Nat) (i : Nat) {c : Int → Prop}, idxByte b l i c →
    ∃ r, c r ∧ ((∃ j : Nat, l[j]? = some b ∧ (∀ k : Nat, k < j → l[k]? ≠ some b) ∧ r = ((i + j : Nat) : Int)) ∨ ((∀ k : Nat, l[k]? ≠ some b) ∧ r = -1))
  | [], i, c, h => ⟨-1, h, .inr ⟨by simp, rfl⟩⟩
  | x :: l, i, c, h => by
    have h' : ite' (Nat.beq x b) (c (.ofNat i)) (idxByte b l (Nat.succ i) c) := h
    rw [ite'_eq, beq_dec] at h'
    by_cases hx : x = b
    · simp only [hx, decide_true, if_true] at h'
      exact ⟨_, h', .inl ⟨0, by simp [hx], by simp, by simp⟩⟩
    · simp only [hx, decide_false, Bool.false_eq_true, if_false] at h'
      obtain ⟨r, h1, h2⟩ := idxByte_spec b l (i + 1) h'
      refine ⟨r, h1, ?_⟩
      rcases h2 with ⟨j, h3, h4, h5⟩ | ⟨h3, h4⟩
      · refine .inl ⟨j + 1, by simpa using h3, ?_, by rw [h5]; congr 1; omega⟩
        intro k hk
        cases k with
        | zero => simp [hx]
        | succ k => simpa using h4 k (by omega)
      · refine .inr ⟨?_, h4⟩
        intro k
        cases k with
        | zero => simp [hx]
        | succ k => simpa using h3 k
theorem lv_sound (hD : DrawOk P) (hR : RangeOk P) (hC : ∀ L, LvOk P L → ∀ f args u σ nx c, callF P L f args u σ nx c → ∃ r u' σ' nx', c r u' σ' nx' ∧ CallOk P f args u σ nx r u' σ' nx') : ∀ n, LvOk P (lv P n)
  | 0 => ⟨fun _ _ _ _ _ _ _ _ h => h.elim, fun _ _ _ _ _ _ h => h.elim, fun _ _ _ _ _ h => h.elim⟩
  | n + 1 => by
    have ih := lv_sound hD hR hC n
    exact ⟨fun fi code env dfs u σ nx K h => exec_sound' hD hR ih fi code env dfs u σ nx K h, fun f args u σ nx c h => hC _ ih f args u σ nx c h, fun l args σ nx c h => yield_sound ih l args σ nx c h⟩
end
end Go.AE
namespace Go.AE
open Go

section
variable {P : Program}
theorem ext_call (hE : ExtOk P) {f : FuncId} {fn : Func} (hfn : nthO P.funcs.toList f = some fn) (hb : fn.body = none) {args : List AV} {u : U} {σ : Heap} {nx : Pos} {c : KR} (h : externK fn args fun v => c (.ret v) u σ nx) :
    ∃ r u' σ' nx', c r u' σ' nx' ∧ CallOk P f args u σ nx r u' σ' nx' := by
  unfold externK at h
  obtain ⟨hi, h1⟩ := ite'_true h
  have h2 : ∃ s b, args = [.str s, .int .u8 (.ofNat b)] ∧ ite' (Nat.blt b 256) (idxByte b s 0 fun i => c (.ret (.int .i64 i)) u σ nx) False := by
    split at h1
    · exact ⟨_, _, rfl, h1⟩
    · exact h1.elim
  obtain ⟨s, b, rfl, h3⟩ := h2
  obtain ⟨hb256, h4⟩ := ite'_true h3
  rw [blt_iff, decide_eq_true_eq] at hb256
  obtain ⟨r, h5, h6⟩ := idxByte_spec b s 0 h4
  refine ⟨_, u, σ, nx, h5, Nat.le_refl _, fun β w args' kind md cs0 hva R hu hf => ?_⟩
  refine ⟨β, md, w, R, hu, Fr.refl _ _ _ _, .inl ⟨_, .int .i64 r, rfl, .int _ _, ?_, rfl⟩⟩
  rw [hE f fn hfn hb hi]
  cases hva with
  | cons _ v1 _ l1 hv1 hs1 =>
    obtain ⟨v2, rfl, hv2⟩ := hs1.one_inv
    obtain ⟨bs, rfl, rfl⟩ := hv1.str_inv
    rw [hv2.int_inv]
    have hbb : ∀ k : Nat, (bs.data.toList.map UInt8.toNat)[k]? = some b ↔ (k < bs.size ∧ (bs[k]! == b.toUInt8) = true) := by
      intro k
      have hds : bs.data.size = bs.size := rfl
      by_cases hk : k < bs.size
      · have h1 : bs.data[k]? = some bs.data[k] := by simp [hds, hk]
        have h2 : bs[k]! = bs.data[k] := by
          rw [getElem!_pos bs k hk]; rfl
        rw [List.getElem?_map, Array.getElem?_toList, h1, h2]
        simp only [Option.map_some, Option.some.injEq, hk, true_and, beq_iff_eq]
        constructor
        · intro h; rw [← h]; simp
        · intro h; rw [h]; simp; omega
      · rw [List.getElem?_map, Array.getElem?_toList]
        simp [hds, hk]
    have hfind : (List.range bs.size).find? (fun i => bs[i]! == b.toUInt8) = (match r with | .ofNat j => some j | .negSucc _ => none) := by
      rcases h6 with ⟨j, g1, g2, rfl⟩ | ⟨g1, rfl⟩
      · have hj := (hbb j).1 g1
        show _ = (match ((0 + j : Nat) : Int) with | .ofNat j => some j | .negSucc _ => none)
        rw [Nat.zero_add]
        show _ = some j
        rw [List.find?_range_eq_some]
        refine ⟨hj.2, by simpa using hj.1, fun k hk => ?_⟩
        have := g2 k hk
        rw [Ne, hbb k] at this
        have hk2 : k < bs.size := by omega
        simpa [hk2] using this
      · show _ = none
        rw [List.find?_eq_none]
        intro k hk
        have := g1 k
        rw [Ne, hbb k] at this
        have hk2 : k < bs.size := by simpa using hk
        simpa [hk2] using this
    have hr : (Extern.BytealgIndexByte.indexByte ⟨[.string bs, .int .u8 (.ofNat b)]⟩).run P w = .ok (.int .i64 r) w := by
      show (do let b' ← Extern.Bytes.bytesOf (.string bs); let c ← Extern.Bytes.asByte (.int .u8 (.ofNat b)); (match (List.range b'.size).find? fun i => b'[i]! == c with | some i => pure (goInt i) | none => pure (goInt (-1)) : Sem Value) : Sem Value).run P w = _
      simp only [Extern.Bytes.bytesOf, Extern.Bytes.asByte, Sem.run_bind, Sem.run_pure, Result.andThen_ok]
      have ht : (Int.ofNat b).toNat.toUInt8 = b.toUInt8 := rfl
      rw [ht, hfind]
      rcases h6 with ⟨j, g1, g2, rfl⟩ | ⟨g1, rfl⟩
      · rfl
      · rfl
    simp only [Sem.run_bind, hr, Result.andThen_ok]
    rfl

theorem call_sound (hE : ExtOk P) (L : Lv) (hL : LvOk P L) (f : FuncId) (args : List AV) (u : U) (σ : Heap) (nx : Pos) (c : KR) (h : callF P L f args u σ nx c) : ∃ r u' σ' nx', c r u' σ' nx' ∧ CallOk P f args u σ nx r u' σ' nx' := by
  unfold callF at h
  cases hfn : nthO P.funcs.toList f with
  | none => rw [hfn] at h; exact h.elim
  | some fn =>
    rw [hfn] at h
    simp only at h
    cases hb : fn.body with
    | none => rw [hb] at h; exact ext_call hE hfn hb h
    | some code =>
      rw [hb] at h
      obtain ⟨hq, h1⟩ := ite'_true h
      simp only [Bool.and_eq_true, ble_iff, lenK_eq, decide_eq_true_eq, Bool.not_eq_true'] at hq
      exact call_body hL hfn hb hq.2 hq.1 h1
theorem lv_ok (hD : DrawOk P) (hR : RangeOk P) (hE : ExtOk P) (n : Nat) : LvOk P (lv P n) := lv_sound hD hR (fun L hL f args u σ nx c h => call_sound hE L hL f args u σ nx c h) n
end
end Go.AE
