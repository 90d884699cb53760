/-
  A part of the proof that the evaluator is sound: what it finds, the machine does, whatever the tape; conditions as each theorem names them.
-/
import Derived.Test.YtodboimcfpefhaaGreatDoorAe5
namespace Go.AE
open Go

section
variable {P : Program} {b : Frame} {a : Act} {k : List Item} {cs : List Frame} {w w' : World} {ops : Array Oper} {i : Nat} {rest : List Nat} {o : Oper}

/-- an operation that gives a value -/
theorem stepR_gives (ho : ops[i]? = some o) (hw : Region.wanted o (yielded ops a.tmps) = true) (hd : ∀ c, o.op ≠ .defer c) {v' : Value} (h : Gives P (execOp a.eval o) w v' w') :
    step P (lone (b.atR a (.inRegion ops (i :: rest) :: k)) cs w) = .next (lone (b.atR (a.put o.dst v') (.inRegion ops rest :: k)) cs w') := by
  have hf := Frame.finish_atR b a ops i rest k v'
  rw [ho] at hf
  simp only [Option.bind_some] at hf
  rw [← hf]
  refine step_lone_go ?_
  rw [stepGR_op ho hw, Oper.semAt_eq _ _ _ hd]
  rcases h with h | ⟨rfl, h⟩
  · simp [stepG.apply, Sem.runT_eq, h]
  · simp [stepG.apply, Sem.runT_eq, h]

/-- an operation that is not asked for -/
theorem stepR_not (ho : ops[i]? = some o) (hw : Region.wanted o (yielded ops a.tmps) = false) :
    step P (lone (b.atR a (.inRegion ops (i :: rest) :: k)) cs w) = .next (lone (b.atR (a.put o.dst undef) (.inRegion ops rest :: k)) cs w) := by
  have := stepR_op_skip (P := P) (b := b) (a := a) (k := k) (cs := cs) (w := w) (ops := ops) (i := i) (rest := rest) (by rw [ho]; simpa using hw)
  rw [ho] at this
  exact this
end

/-- the value goes into the temporary, the rest of the state stays or is replaced -/
theorem StR.put {P : Program} {fi : FI} {s : St} {β β' : Be} {b : Frame} {a : Act} {md : Option FrameMode} {cs0 : List Frame} {w w' : World} (h : StR P fi s β b a md cs0 w) (hb : β.le β') {d : Option Tmp} {v : AV} {v' : Value}
    (hv : VR β' v v') (hd : ∀ t, d = some t → t < ntmpsOf P fi.fid) {l' : Loc} {e' : Env} (he : ∀ (β : Be) (a : Act) (v' : Value), EnvR β (maskOf P fi.fid) s.l s.e a.tmps → VR β v v' → (∀ t, d = some t → t < a.tmps.size) → EnvR β (maskOf P fi.fid) l' e' (a.put d v').tmps)
    {σ' : Heap} (hr : Rel (maskOf P) (ntmpsOf P) β' (hof σ') w') {nx' : Pos} : StR P fi ⟨l', e', s.dfs, s.u, σ', nx'⟩ β' b (a.put d v') md cs0 w' :=
  ⟨h.fn, h.rnd.mono hb, h.u.mono hb, he β' a v' (h.env.mono hb) hv (fun t ht => by rw [h.size]; exact hd t ht), by rw [put_size]; exact h.size, by rw [put_defers]; exact h.dfs.mono hb, hr⟩

section
variable {P : Program} {fi : FI} {ops : Array Oper} {i : Nat} {rest : List Nat} {o : Oper} {k : List Item}

/-- the frame's operation, wherever it is asked for -/
def Wants (P : Program) (fi : FI) (s : St) (ops : Array Oper) (o : Oper) (t : Bool) : Prop :=
  ∀ β (a : Act), G0 β → EnvR β (maskOf P fi.fid) s.l s.e a.tmps → Region.wanted o (yielded ops a.tmps) = t

theorem goes_pure {s : St} (ho : ops[i]? = some o) (hw : Wants P fi s ops o true) (hdst : ∀ t, o.dst = some t → t < ntmpsOf P fi.fid) (hnd : ∀ c, o.op ≠ .defer c) {v : AV} (hv : PureOk P (maskOf P fi.fid) s.l s.e o v) {l' : Loc} {e' : Env}
    (he : ∀ (β : Be) (a : Act) (v' : Value), EnvR β (maskOf P fi.fid) s.l s.e a.tmps → VR β v v' → (∀ t, o.dst = some t → t < a.tmps.size) → EnvR β (maskOf P fi.fid) l' e' (a.put o.dst v').tmps) :
    Goes P fi s ⟨l', e', s.dfs, s.u, s.σ, s.nx⟩ (.inRegion ops (i :: rest) :: k) (.inRegion ops rest :: k) := by
  refine ⟨Nat.le_refl _, fun β b a md cs0 w h _ => ?_⟩
  obtain ⟨v', h1, h2⟩ := hv β a h.rel.g0 (h.env.opds o.op)
  exact ⟨β, a.put o.dst v', md, w, .one (stepR_gives ho (hw β a h.rel.g0 h.env) hnd (.inl (h2 w))), h.put (fun _ _ h => h) h1 hdst he h.rel, Fr.refl _ _ _ _⟩

theorem goes_read {s : St} (ho : ops[i]? = some o) (hw : Wants P fi s ops o true) (hdst : ∀ t, o.dst = some t → t < ntmpsOf P fi.fid) (hnd : ∀ c, o.op ≠ .defer c) {v : AV}
    (hv : ReadAt (maskOf P) (ntmpsOf P) P (maskOf P fi.fid) s.l s.e o (hof s.σ) v) {l' : Loc} {e' : Env}
    (he : ∀ (β : Be) (a : Act) (v' : Value), EnvR β (maskOf P fi.fid) s.l s.e a.tmps → VR β v v' → (∀ t, o.dst = some t → t < a.tmps.size) → EnvR β (maskOf P fi.fid) l' e' (a.put o.dst v').tmps) :
    Goes P fi s ⟨l', e', s.dfs, s.u, s.σ, s.nx⟩ (.inRegion ops (i :: rest) :: k) (.inRegion ops rest :: k) := by
  refine ⟨Nat.le_refl _, fun β b a md cs0 w h _ => ?_⟩
  obtain ⟨v', h1, h2⟩ := hv β a w h.rel (h.env.opds o.op)
  exact ⟨β, a.put o.dst v', md, w, .one (stepR_gives ho (hw β a h.rel.g0 h.env) hnd (.inl h2)), h.put (fun _ _ h => h) h1 hdst he h.rel, Fr.refl _ _ _ _⟩

theorem goes_alloc {s : St} (ho : ops[i]? = some o) (hw : Wants P fi s ops o true) (hdst : ∀ t, o.dst = some t → t < ntmpsOf P fi.fid) (hnd : ∀ c, o.op ≠ .defer c) {v : AV} {ob : AObj}
    (hv : AllocAt (maskOf P) (ntmpsOf P) P (maskOf P fi.fid) s.l s.e o s.nx v ob) {l' : Loc} {e' : Env} {σ' : Heap} (hσ : hof σ' = upd (hof s.σ) s.nx (some ob))
    (he : ∀ (β : Be) (a : Act) (v' : Value), EnvR β (maskOf P fi.fid) s.l s.e a.tmps → VR β v v' → (∀ t, o.dst = some t → t < a.tmps.size) → EnvR β (maskOf P fi.fid) l' e' (a.put o.dst v').tmps) :
    Goes P fi s ⟨l', e', s.dfs, s.u, σ', s.nx.succ⟩ (.inRegion ops (i :: rest) :: k) (.inRegion ops rest :: k) := by
  refine ⟨by show s.nx.toNat ≤ s.nx.succ.toNat; rw [Pos.toNat_succ]; omega, fun β b a md cs0 w h hf => ?_⟩
  have hnx : β s.nx = none := hf s.nx (Nat.le_refl _) (by show s.nx.toNat < s.nx.succ.toNat; rw [Pos.toNat_succ]; omega)
  obtain ⟨v', w', tot, h1, G, h2, h3⟩ := hv β a w h.rel.g0 (h.env.opds o.op) hnx
  have R := grown_rel h.rel G hnx h3
  have F := grown_fr (β := β) (h := hof s.σ) G (id := s.nx) (new_ge h.rel.g0 hnx) (tot := tot) (o := ob)
  rw [← hσ] at R F
  exact ⟨_, a.put o.dst v', md, w', .one (stepR_gives ho (hw β a h.rel.g0 h.env) hnd (.inl h1)), h.put (bset_le hnx) h2 hdst he R, F⟩

theorem goes_eff {s : St} (ho : ops[i]? = some o) (hw : Wants P fi s ops o true) (hdst : ∀ t, o.dst = some t → t < ntmpsOf P fi.fid) (hnd : ∀ c, o.op ≠ .defer c) {v : AV} {σ' : Heap} {nx' : Pos}
    (hv : EffAt (maskOf P) (ntmpsOf P) P (maskOf P fi.fid) s.l s.e o s.σ s.nx v σ' nx') {l' : Loc} {e' : Env}
    (he : ∀ (β : Be) (a : Act) (v' : Value), EnvR β (maskOf P fi.fid) s.l s.e a.tmps → VR β v v' → (∀ t, o.dst = some t → t < a.tmps.size) → EnvR β (maskOf P fi.fid) l' e' (a.put o.dst v').tmps) :
    Goes P fi s ⟨l', e', s.dfs, s.u, σ', nx'⟩ (.inRegion ops (i :: rest) :: k) (.inRegion ops rest :: k) := by
  refine ⟨hv.1, fun β b a md cs0 w h hf => ?_⟩
  obtain ⟨β', w', v', h1, h2, h3, h4⟩ := hv.2 β a w h.rel hf (h.env.opds o.op)
  exact ⟨β', a.put o.dst v', md, w', .one (stepR_gives ho (hw β a h.rel.g0 h.env) hnd h1), h.put (h4.mono hf) h2 hdst he h3, h4⟩

theorem goes_skip {s : St} (ho : ops[i]? = some o) (hw : Wants P fi s ops o false) (hdst : ∀ t, o.dst = some t → t < ntmpsOf P fi.fid) {l' : Loc} {e' : Env}
    (he : ∀ (β : Be) (a : Act) (v' : Value), EnvR β (maskOf P fi.fid) s.l s.e a.tmps → VR β (.tuple []) v' → (∀ t, o.dst = some t → t < a.tmps.size) → EnvR β (maskOf P fi.fid) l' e' (a.put o.dst v').tmps) :
    Goes P fi s ⟨l', e', s.dfs, s.u, s.σ, s.nx⟩ (.inRegion ops (i :: rest) :: k) (.inRegion ops rest :: k) := by
  refine ⟨Nat.le_refl _, fun β b a md cs0 w h _ => ?_⟩
  exact ⟨β, a.put o.dst undef, md, w, .one (stepR_not ho (hw β a h.rel.g0 h.env)), h.put (fun _ _ h => h) (.tuple [] [] .nil) hdst he h.rel, Fr.refl _ _ _ _⟩

/-- guards -/
theorem wants_none {s : St} (hg : o.guard = none) : Wants P fi s ops o true := by
  intro β a _ _
  simp [Region.wanted, hg]
theorem wants_some {s : St} {j : Nat} {want : Bool} {t : Tmp} (hg : o.guard = some (j, want)) (ht : (ops[j]?).bind (·.dst) = some t) {g : AV} (hget : GetOk (maskOf P fi.fid) s.l s.e (.tmp t) g) {r : Bool}
    (hr : (∃ bb, g = .bool bb ∧ r = (bb == want)) ∨ (g = .tuple [] ∧ r = false)) : Wants P fi s ops o r := by
  intro β a hG he
  have hv := hget β a hG (he.opd (.tmp t))
  simp only [Region.wanted, hg, yielded, ht, Option.bind_some]
  have hev : a.eval (.tmp t) = a.tmps.getD t undef := rfl
  rw [hev] at hv
  rcases hr with ⟨bb, rfl, rfl⟩ | ⟨rfl, rfl⟩
  · have h1 := hv.bool_inv
    cases hq : a.tmps[t]? with
    | none =>
      rw [Array.getD_eq_getD_getElem?, hq] at h1
      simp [undef] at h1
    | some x =>
      rw [Array.getD_eq_getD_getElem?, hq] at h1
      simp only [Option.getD_some] at h1
      subst h1
      simp
  · obtain ⟨cs', h1, h2⟩ := hv.tuple_inv
    cases hq : a.tmps[t]? with
    | none => simp
    | some x =>
      rw [Array.getD_eq_getD_getElem?, hq] at h1
      simp only [Option.getD_some] at h1
      subst h1
      simp
end
end Go.AE
namespace Go.AE
open Go

/-! ## what a level of the evaluator says of the machine -/
/-- where a code is left -/
def ArrR (P : Program) (m : Machine) (b : Frame) (k : List Item) (cs : List Frame) (β : Be) (e : AExit) (a : Act) (w : World) : Prop :=
  match e with
  | .normal => Steps P m (lone (b.atR a k) cs w)
  | .exit id => ∃ k2, exitTo id k2 = exitTo id k ∧ Steps P m (lone (b.atR a (.code (.exit id) :: k2)) cs w)
  | .ret => ∃ k2, Steps P m (lone (b.atR a (.code .ret :: k2)) cs w)
  | .panic ch => ∃ todo ch', ChR β ch ch' ∧ Steps P m (lone { b.atR a todo with mode := .panicking ch' } cs w)
theorem ArrR.of_steps {P : Program} {m m1 : Machine} {b : Frame} {k : List Item} {cs : List Frame} {β : Be} {e : AExit} {a : Act} {w : World} (h : Steps P m m1) (h' : ArrR P m1 b k cs β e a w) : ArrR P m b k cs β e a w := by
  cases e with
  | normal => exact h.trans h'
  | exit id => obtain ⟨k2, h1, h2⟩ := h'; exact ⟨k2, h1, h.trans h2⟩
  | ret => obtain ⟨k2, h2⟩ := h'; exact ⟨k2, h.trans h2⟩
  | panic ch => obtain ⟨t, c, h1, h2⟩ := h'; exact ⟨t, c, h1, h.trans h2⟩

/-- from the list of items T, with k behind it -/
def ExecFrom (P : Program) (fi : FI) (T : List Item → List Item) (s : St) (e : AExit) (s' : St) : Prop :=
  s.nx.toNat ≤ s'.nx.toNat ∧ ∀ β b a md cs0 w k, StR P fi s β b a md cs0 w → Free β s.nx s'.nx →
    ∃ β' a' md' w', ArrR P (lone (b.atR a (T k)) (withMode md cs0) w) b k (withMode md' cs0) β' e a' w' ∧ StR P fi s' β' b a' md' cs0 w' ∧ Fr β (hof s.σ) w s.nx β' (hof s'.σ) w' s'.nx
/-- a loop that goes on does what the loop does -/
def LoopOk (P : Program) (fi : FI) (code : Code) (s : St) (e : AExit) (s' : St) : Prop := ∀ x, code = .loop x → ExecFrom P fi (fun k => .inLoop x :: k) s e s'
abbrev ExecOk (P : Program) (fi : FI) (code : Code) (s : St) (e : AExit) (s' : St) : Prop := ExecFrom P fi (fun k => .code code :: k) s e s'

def EndR (P : Program) (f : FuncId) (kind : CallKind) (r : Ret) (β : Be) (fr : Frame) (w : World) : Prop :=
  fr.fn = f ∧ fr.defers = [] ∧ fr.kind = kind ∧ ∃ fn, P.funcs[f]? = some fn ∧ match r with
    | .ret v => fr.mode = .returning ∧ ∃ v', VR β v v' ∧ (results fn fr.tmps).run P w = .ok v' w
    | .pan ch => ∃ ch', ChR β ch ch' ∧ fr.mode = .panicking ch'

def CallOk (P : Program) (f : FuncId) (args : List AV) (u : U) (σ : Heap) (nx : Pos) (r : Ret) (u' : U) (σ' : Heap) (nx' : Pos) : Prop :=
  nx.toNat ≤ nx'.toNat ∧ ∀ β w args' kind md cs0, VRs β args args' → Rel (maskOf P) (ntmpsOf P) β (hof σ) w → UR β u kind md cs0 → Free β nx nx' →
    ∃ β' md' w', Rel (maskOf P) (ntmpsOf P) β' (hof σ') w' ∧ UR β' u' kind md' cs0 ∧ Fr β (hof σ) w nx β' (hof σ') w' nx' ∧
      ((∃ v v', r = .ret v ∧ VR β' v v' ∧ (callFunc f ⟨args'⟩).run P w = .ok (.value v') w' ∧ md' = md) ∨
       ((callFunc f ⟨args'⟩).run P w = .ok (.enter f ⟨args'⟩) w ∧ ∃ fr, Steps P (lone (Frame.enter P f ⟨args'⟩ kind) (withMode md cs0) w) (lone fr (withMode md' cs0) w') ∧ EndR P f kind r β' fr w'))

def YieldOk (P : Program) (l : Pos) (args : List AV) (σ : Heap) (nx : Pos) (v : AV) (σ' : Heap) (nx' : Pos) : Prop :=
  nx.toNat ≤ nx'.toNat ∧ ∀ β w args' bl x (c : Frame) (cs : List Frame), β l = some (bl, x) → VRs β args args' → Rel (maskOf P) (ntmpsOf P) β (hof σ) w → Free β nx nx' →
    ∃ β' w' v', Rel (maskOf P) (ntmpsOf P) β' (hof σ') w' ∧ Fr β (hof σ) w nx β' (hof σ') w' nx' ∧ VR β' v v' ∧
      ∃ fid tmps assign body, (Instr.yield bl ⟨args'⟩).run P w = .ok (.round bl fid tmps assign body) w ∧
        Steps P (lone (Frame.round bl fid tmps assign body .normal) (c :: cs) w) (lone (c.finish v') cs w')

structure LvOk (P : Program) (L : Lv) : Prop where
  exec : ∀ fi code env dfs u σ nx K, L.exec fi code env (.mk dfs u σ nx) K → ∃ e env' dfs' u' σ' nx', K e env' (.mk dfs' u' σ' nx') ∧ ExecOk P fi code ⟨.nil, env, dfs, u, σ, nx⟩ e ⟨.nil, env', dfs', u', σ', nx'⟩ ∧
    LoopOk P fi code ⟨.nil, env, dfs, u, σ, nx⟩ e ⟨.nil, env', dfs', u', σ', nx'⟩
  call : ∀ f args u σ nx c, L.call f args u σ nx c → ∃ r u' σ' nx', c r u' σ' nx' ∧ CallOk P f args u σ nx r u' σ' nx'
  yield : ∀ l args σ nx c, L.yield l args σ nx c → ∃ v σ' nx', c v σ' nx' ∧ YieldOk P l args σ nx v σ' nx'

/-! ## calls -/
section
variable {P : Program} {b : Frame} {a : Act} {k : List Item} {cs : List Frame} {w w' : World} {ops : Array Oper} {i : Nat} {rest : List Nat} {o : Oper}

theorem stepR_enter (ho : ops[i]? = some o) (hw : Region.wanted o (yielded ops a.tmps) = true) (hd : ∀ c, o.op ≠ .defer c) {f : FuncId} {args : Array Value} (h : (execOp a.eval o).run P w = .ok (.enter f args) w') :
    step P (lone (b.atR a (.inRegion ops (i :: rest) :: k)) cs w) = .next (lone (Frame.enter P f args .normal) (b.atR a (.inRegion ops (i :: rest) :: k) :: cs) w') := by
  refine step_lone_go ?_
  rw [stepGR_op ho hw, Oper.semAt_eq _ _ _ hd]
  simp [stepG.apply, Sem.runT_eq, h, Frame.atR]
theorem stepR_round (ho : ops[i]? = some o) (hw : Region.wanted o (yielded ops a.tmps) = true) (hd : ∀ c, o.op ≠ .defer c) {l : Nat} {f : FuncId} {tmps : Array Value} {assign body : Code}
    (h : (execOp a.eval o).run P w = .ok (.round l f tmps assign body) w') :
    step P (lone (b.atR a (.inRegion ops (i :: rest) :: k)) cs w) = .next (lone (Frame.round l f tmps assign body .normal) (b.atR a (.inRegion ops (i :: rest) :: k) :: cs) w') := by
  refine step_lone_go ?_
  rw [stepGR_op ho hw, Oper.semAt_eq _ _ _ hd]
  simp [stepG.apply, Sem.runT_eq, h]
end

/-- to a panic of the frame -/
def GoesP (P : Program) (fi : FI) (s s' : St) (T : List Item) (ch : List (AV × Bool)) : Prop :=
  s.nx.toNat ≤ s'.nx.toNat ∧ ∀ β b a md cs0 w, StR P fi s β b a md cs0 w → Free β s.nx s'.nx →
    ∃ β' a' md' w' todo ch', ChR β' ch ch' ∧ Steps P (lone (b.atR a T) (withMode md cs0) w) (lone { b.atR a' todo with mode := .panicking ch' } (withMode md' cs0) w') ∧ StR P fi s' β' b a' md' cs0 w' ∧ Fr β (hof s.σ) w s.nx β' (hof s'.σ) w' s'.nx
theorem Goes.panic {P : Program} {fi : FI} {s s1 s2 : St} {T T1 : List Item} {ch : List (AV × Bool)} (h : Goes P fi s s1 T T1) (h' : GoesP P fi s1 s2 T1 ch) : GoesP P fi s s2 T ch := by
  refine ⟨Nat.le_trans h.1 h'.1, fun β b a md cs0 w hs hf => ?_⟩
  obtain ⟨β1, a1, md1, w1, q1, q2, q3⟩ := h.2 β b a md cs0 w hs (hf.left h'.1)
  obtain ⟨β2, a2, md2, w2, todo, ch', r0, r1, r2, r3⟩ := h'.2 β1 b a1 md1 cs0 w1 q2 (hf.right q3)
  exact ⟨β2, a2, md2, w2, todo, ch', r0, q1.trans r1, r2, q3.trans r3⟩

section
variable {P : Program} {fi : FI} {ops : Array Oper} {i : Nat} {rest : List Nat} {o : Oper} {k : List Item}

/-- the frame goes on with the same temporaries -/
theorem StR.back {s : St} {β β' : Be} {b : Frame} {a : Act} {md : Option FrameMode} {cs0 : List Frame} {w w' : World} (h : StR P fi s β b a md cs0 w) (hb : β.le β') {σ' : Heap} (hr : Rel (maskOf P) (ntmpsOf P) β' (hof σ') w') {nx' : Pos} :
    StR P fi ⟨s.l, s.e, s.dfs, s.u, σ', nx'⟩ β' b a md cs0 w' :=
  ⟨h.fn, h.rnd.mono hb, h.u.mono hb, h.env.mono hb, h.size, h.dfs.mono hb, hr⟩

/-- a call that is entered -/
theorem call_ret {s : St} (ho : ops[i]? = some o) (hw : Wants P fi s ops o true) (hdst : ∀ t, o.dst = some t → t < ntmpsOf P fi.fid) (hnd : ∀ c, o.op ≠ .defer c) {f : FuncId} {args : List AV}
    (hop : ∀ (β : Be) (a : Act), G0 β → EnvR β (maskOf P fi.fid) s.l s.e a.tmps → ∃ args', VRs β args args' ∧ ∀ w, (execOp a.eval o).run P w = (callFunc f ⟨args'⟩).run P w) {r : Ret} {u' : U} {σ' : Heap} {nx' : Pos} (hc : CallOk P f args none s.σ s.nx r u' σ' nx') :
    (∀ v l' e', r = .ret v → (∀ (β : Be) (a : Act) (v' : Value), EnvR β (maskOf P fi.fid) s.l s.e a.tmps → VR β v v' → (∀ t, o.dst = some t → t < a.tmps.size) → EnvR β (maskOf P fi.fid) l' e' (a.put o.dst v').tmps) →
      Goes P fi s ⟨l', e', s.dfs, s.u, σ', nx'⟩ (.inRegion ops (i :: rest) :: k) (.inRegion ops rest :: k)) ∧
    (∀ ch, r = .pan ch → GoesP P fi s ⟨s.l, s.e, s.dfs, s.u, σ', nx'⟩ (.inRegion ops (i :: rest) :: k) ch) := by
  constructor
  · intro v l' e' hr he
    subst hr
    refine ⟨hc.1, fun β b a md cs0 w h hf => ?_⟩
    obtain ⟨args', h1, h2⟩ := hop β a h.rel.g0 h.env
    obtain ⟨β', md', w', R, U', F, hcase⟩ := hc.2 β w args' .normal none (b.atR a (.inRegion ops (i :: rest) :: k) :: withMode md cs0) h1 h.rel ⟨rfl, rfl⟩ hf
    have hb := F.mono hf
    rcases hcase with ⟨v0, v', hr, hv, hrun, _⟩ | ⟨hrun, fr, hst, hend⟩
    · cases hr
      exact ⟨β', a.put o.dst v', md, w', .one (stepR_gives ho (hw β a h.rel.g0 h.env) hnd (.inl (by rw [h2]; exact hrun))), h.put hb hv hdst he R, F⟩
    · obtain ⟨e1, e2, e3, fn, e4, e5, v', hv, e6⟩ := hend
      have hmd : md' = none ∨ ∃ m, u' = some m := by
        cases u' with
        | none => exact .inl U'.2
        | some m => exact .inr ⟨m, rfl⟩
      have hmd : md' = none := by
        rcases hmd with h | ⟨m, rfl⟩
        · exact h
        · exact absurd U'.1 (by simp)
      subst hmd
      have l1 : fr.leaving P w' (.returned v') := ⟨e5, e2, e3, fn, by rw [e1]; exact e4, e6⟩
      have st2 := step_leave_returned (c := b.atR a (.inRegion ops (i :: rest) :: k)) (cs := withMode md cs0) l1
      have hfin := Frame.finish_atR b a ops i rest k v'
      rw [ho] at hfin
      simp only [Option.bind_some] at hfin
      rw [hfin] at st2
      refine ⟨β', a.put o.dst v', md, w', ?_, h.put hb hv hdst he R, F⟩
      exact Steps.head (stepR_enter ho (hw β a h.rel.g0 h.env) hnd (by rw [h2]; exact hrun)) (hst.trans (.one st2))
  · intro ch hr
    subst hr
    refine ⟨hc.1, fun β b a md cs0 w h hf => ?_⟩
    obtain ⟨args', h1, h2⟩ := hop β a h.rel.g0 h.env
    obtain ⟨β', md', w', R, U', F, hcase⟩ := hc.2 β w args' .normal none (b.atR a (.inRegion ops (i :: rest) :: k) :: withMode md cs0) h1 h.rel ⟨rfl, rfl⟩ hf
    have hb := F.mono hf
    rcases hcase with ⟨v0, v', hr, hv, hrun, _⟩ | ⟨hrun, fr, hst, hend⟩
    · cases hr
    · obtain ⟨e1, e2, e3, fn, e4, ch', hch, e5⟩ := hend
      have hmd : md' = none := by
        cases u' with
        | none => exact U'.2
        | some m => exact absurd U'.1 (by simp)
      subst hmd
      have l1 : fr.leaving P w' (.panicked ch') := ⟨e5, e2, fn, by rw [e1]; exact e4⟩
      have st2 := step_leave_panicked (c := b.atR a (.inRegion ops (i :: rest) :: k)) (cs := withMode md cs0) l1
      rw [Frame.raise_atR] at st2
      refine ⟨β', a, md, w', .inRegion ops (i :: rest) :: k, ch', hch, ?_, h.back hb R, F⟩
      exact Steps.head (stepR_enter ho (hw β a h.rel.g0 h.env) hnd (by rw [h2]; exact hrun)) (hst.trans (.one st2))

/-- a call of a loop's body -/
theorem yield_ret {s : St} (ho : ops[i]? = some o) (hw : Wants P fi s ops o true) (hdst : ∀ t, o.dst = some t → t < ntmpsOf P fi.fid) (hnd : ∀ c, o.op ≠ .defer c) {l : Pos} {args : List AV}
    (hop : ∀ (β : Be) (a : Act), G0 β → EnvR β (maskOf P fi.fid) s.l s.e a.tmps → ∃ bl x args', β l = some (bl, x) ∧ VRs β args args' ∧ ∀ w, (execOp a.eval o).run P w = (Instr.yield bl ⟨args'⟩).run P w) {v : AV} {σ' : Heap} {nx' : Pos} (hc : YieldOk P l args s.σ s.nx v σ' nx')
    {l' : Loc} {e' : Env} (he : ∀ (β : Be) (a : Act) (v' : Value), EnvR β (maskOf P fi.fid) s.l s.e a.tmps → VR β v v' → (∀ t, o.dst = some t → t < a.tmps.size) → EnvR β (maskOf P fi.fid) l' e' (a.put o.dst v').tmps) :
      Goes P fi s ⟨l', e', s.dfs, s.u, σ', nx'⟩ (.inRegion ops (i :: rest) :: k) (.inRegion ops rest :: k) := by
  refine ⟨hc.1, fun β b a md cs0 w h hf => ?_⟩
  obtain ⟨bl, x, args', hbl, h1, h2⟩ := hop β a h.rel.g0 h.env
  obtain ⟨β', w', v', R, F, hv, fid, tmps, assign, body, hy, st⟩ := hc.2 β w args' bl x (b.atR a (.inRegion ops (i :: rest) :: k)) (withMode md cs0) hbl h1 h.rel hf
  have hb := F.mono hf
  have hfin := Frame.finish_atR b a ops i rest k v'
  rw [ho] at hfin
  simp only [Option.bind_some] at hfin
  rw [hfin] at st
  exact ⟨β', a.put o.dst v', md, w', Steps.head (stepR_round ho (hw β a h.rel.g0 h.env) hnd (by rw [h2]; exact hy)) st, h.put hb hv hdst he R, F⟩
end
end Go.AE
namespace Go.AE
open Go

/-- what is no destination stays -/
def Agree (m : Nat) (d : Option Tmp) (e e' : Env) : Prop := ∀ p, (∀ t, d = some t → bit m t = true → p ≠ Pos.ofNat t) → T.get p e' = T.get p e
theorem put_agree {m : Nat} {d : Option Tmp} {v : AV} {l : Loc} {e : Env} {c : Loc → Env → Prop} (h : (put (dst m d)).run v l e c) :
    ∃ l' e', c l' e' ∧ Agree m d e e' ∧ ∀ (β : Be) (a : Act) (v' : Value), EnvR β m l e a.tmps → VR β v v' → (∀ t, d = some t → t < a.tmps.size) → EnvR β m l' e' (a.put d v').tmps := by
  obtain ⟨l', e', ⟨h1, h3⟩, h2⟩ := put_spec (c := fun l' e' => c l' e' ∧ Agree m d e e') (m := m) (d := d) (v := v) (l := l) (e := e) (by
    cases d with
    | none => exact ⟨h, fun p _ => rfl⟩
    | some t =>
      simp only [dst] at h ⊢
      by_cases hb : bit m t = true
      · rw [hb] at h ⊢
        simp only [cond_true] at h ⊢
        have h' : T.set (Pos.ofNat t) e (some v) fun env => c l env := h
        show T.set (Pos.ofNat t) e (some v) fun env => c l env ∧ Agree m (some t) e env
        have key : ∀ (p : Pos) (tr : T AV) (c : T AV → Prop) (Q : T AV → Prop), (∀ t', (∀ q, T.get q t' = if q = p then some v else T.get q tr) → Q t') → T.set p tr (some v) c → T.set p tr (some v) fun t' => c t' ∧ Q t' := by
          intro p
          induction p with
          | h =>
            intro tr c Q hq hs
            cases tr with
            | lf => exact ⟨hs, hq _ fun q => by cases q <;> simp [T.get_h, T.get_o, T.get_i, T.get_lf]⟩
            | nd l x r => exact ⟨hs, hq _ fun q => by cases q <;> simp [T.get_h, T.get_o, T.get_i]⟩
          | o p ih =>
            intro tr c Q hq hs
            cases tr with
            | lf => exact ih .lf (fun l' => c (.nd l' none .lf)) (fun l' => Q (.nd l' none .lf)) (fun t' ht => hq _ fun q => by cases q <;> simp [T.get_h, T.get_o, T.get_i, T.get_lf, ht]) hs
            | nd l x r => exact ih l (fun l' => c (.nd l' x r)) (fun l' => Q (.nd l' x r)) (fun t' ht => hq _ fun q => by cases q <;> simp [T.get_h, T.get_o, T.get_i, ht]) hs
          | i p ih =>
            intro tr c Q hq hs
            cases tr with
            | lf => exact ih .lf (fun l' => c (.nd .lf none l')) (fun l' => Q (.nd .lf none l')) (fun t' ht => hq _ fun q => by cases q <;> simp [T.get_h, T.get_o, T.get_i, T.get_lf, ht]) hs
            | nd l x r => exact ih r (fun l' => c (.nd l x l')) (fun l' => Q (.nd l x l')) (fun t' ht => hq _ fun q => by cases q <;> simp [T.get_h, T.get_o, T.get_i, ht]) hs
        exact key (Pos.ofNat t) e (fun env => c l env) _ (fun t' ht p hp => by rw [ht, if_neg (hp t rfl hb)]) h'
      · have hb' : bit m t = false := by simpa using hb
        rw [hb'] at h ⊢
        exact ⟨h, fun p _ => rfl⟩)
  exact ⟨l', e', h1, h3, h2⟩

theorem comp_defer {P : Program} {m : Nat} (c : Call) : (∃ e, comp P m (.defer c) = .e e) ∨ ∃ o, comp P m (.defer c) = .bad o := by
  obtain ⟨cal, args, ats⟩ := c
  cases cal with
  | value f => exact .inl ⟨_, rfl⟩
  | invoke _ _ => exact .inr ⟨_, rfl⟩
  | builtin b => exact .inr ⟨_, rfl⟩

section
variable {P : Program} {L : Lv} {fi : FI} {ops : Array Oper} {i : Nat} {o : Oper}

/-- what an operation of a region comes to -/
def OpOut (P : Program) (fi : FI) (ops : Array Oper) (i : Nat) (o : Oper) (s : St) (K : Loc → Env → W → Prop) (pan : KP) : Prop :=
  (∃ l' e' dfs' u' σ' nx', K l' e' (.mk dfs' u' σ' nx') ∧ Agree (maskOf P fi.fid) o.dst s.e e' ∧ ∀ rest k, Goes P fi s ⟨l', e', dfs', u', σ', nx'⟩ (.inRegion ops (i :: rest) :: k) (.inRegion ops rest :: k)) ∨
  (∃ ch dfs' u' σ' nx', pan ch (.mk dfs' u' σ' nx') ∧ ∀ rest k, GoesP P fi s ⟨s.l, s.e, dfs', u', σ', nx'⟩ (.inRegion ops (i :: rest) :: k) ch)

theorem opX_p {s : St} (ho : ops[i]? = some o) (hw : Wants P fi s ops o true) (hdst : ∀ t, o.dst = some t → t < ntmpsOf P fi.fid) {px : PX} (hx : comp P (maskOf P fi.fid) o.op = .p px) {K : Loc → Env → W → Prop} {pan : KP}
    (h : (opX (dst (maskOf P fi.fid) o.dst) (.p px)).run L fi s.l s.e (.mk s.dfs s.u s.σ s.nx) K pan) : OpOut P fi ops i o s K pan := by
  have h' : (opP px).run s.l s.e fun v => (put (dst (maskOf P fi.fid) o.dst)).run v s.l s.e fun l e => K l e (.mk s.dfs s.u s.σ s.nx) := by
    cases px <;> exact h
  have hnd : ∀ c, o.op ≠ .defer c := by
    intro c hc
    rw [hc] at hx
    rcases comp_defer (P := P) (m := maskOf P fi.fid) c with ⟨e, h⟩ | ⟨e, h⟩ <;> rw [h] at hx <;> cases hx
  obtain ⟨v, h1, h2⟩ := comp_pure o hx h'
  obtain ⟨l', e', h3, h4, h5⟩ := put_agree h1
  exact .inl ⟨l', e', s.dfs, s.u, s.σ, s.nx, h3, h4, fun rest k => goes_pure ho hw hdst hnd h2 h5⟩

theorem opX_r {s : St} (ho : ops[i]? = some o) (hw : Wants P fi s ops o true) (hdst : ∀ t, o.dst = some t → t < ntmpsOf P fi.fid) {rx : RX} (hx : comp P (maskOf P fi.fid) o.op = .r rx) {K : Loc → Env → W → Prop} {pan : KP}
    (h : (opX (dst (maskOf P fi.fid) o.dst) (.r rx)).run L fi s.l s.e (.mk s.dfs s.u s.σ s.nx) K pan) : OpOut P fi ops i o s K pan := by
  have hnd : ∀ c, o.op ≠ .defer c := by
    intro c hc
    rw [hc] at hx
    rcases comp_defer (P := P) (m := maskOf P fi.fid) c with ⟨e, h⟩ | ⟨e, h⟩ <;> rw [h] at hx <;> cases hx
  obtain ⟨v, h1, h2⟩ := comp_read (mk := maskOf P) (nt := ntmpsOf P) o hx h
  obtain ⟨l', e', h3, h4, h5⟩ := put_agree h1
  exact .inl ⟨l', e', s.dfs, s.u, s.σ, s.nx, h3, h4, fun rest k => goes_read ho hw hdst hnd h2 h5⟩

theorem opX_a {s : St} (ho : ops[i]? = some o) (hw : Wants P fi s ops o true) (hdst : ∀ t, o.dst = some t → t < ntmpsOf P fi.fid) {ax : AX} (hx : comp P (maskOf P fi.fid) o.op = .a ax) {K : Loc → Env → W → Prop} {pan : KP}
    (h : (opX (dst (maskOf P fi.fid) o.dst) (.a ax)).run L fi s.l s.e (.mk s.dfs s.u s.σ s.nx) K pan) : OpOut P fi ops i o s K pan := by
  have hnd : ∀ c, o.op ≠ .defer c := by
    intro c hc
    rw [hc] at hx
    rcases comp_defer (P := P) (m := maskOf P fi.fid) c with ⟨e, h⟩ | ⟨e, h⟩ <;> rw [h] at hx <;> cases hx
  obtain ⟨v, ob, h1, h2⟩ := comp_alloc (mk := maskOf P) (nt := ntmpsOf P) o hx h
  obtain ⟨σ', h3, h4⟩ := set_spec h1
  obtain ⟨l', e', h5, h6, h7⟩ := put_agree h3
  exact .inl ⟨l', e', s.dfs, s.u, σ', s.nx.succ, h5, h6, fun rest k => goes_alloc ho hw hdst hnd h2 h4 h7⟩

theorem eff_out {s : St} (ho : ops[i]? = some o) (hw : Wants P fi s ops o true) (hdst : ∀ t, o.dst = some t → t < ntmpsOf P fi.fid) (hnd : ∀ c, o.op ≠ .defer c) {v : AV} {σ' : Heap} {nx' : Pos}
    (h2 : EffAt (maskOf P) (ntmpsOf P) P (maskOf P fi.fid) s.l s.e o s.σ s.nx v σ' nx') {K : Loc → Env → W → Prop} {pan : KP} (h : (put (dst (maskOf P fi.fid) o.dst)).run v s.l s.e fun l e => K l e (.mk s.dfs s.u σ' nx')) : OpOut P fi ops i o s K pan := by
  obtain ⟨l', e', h3, h4, h5⟩ := put_agree h
  exact .inl ⟨l', e', s.dfs, s.u, σ', nx', h3, h4, fun rest k => goes_eff ho hw hdst hnd h2 h5⟩
end
end Go.AE
namespace Go.AE
open Go

section
variable {P : Program} {b : Frame} {a : Act} {k : List Item} {cs cs' : List Frame} {w w' : World} {ops : Array Oper} {i : Nat} {rest : List Nat} {o : Oper}

theorem stepR_recover (ho : ops[i]? = some o) (hw : Region.wanted o (yielded ops a.tmps) = true) (hd : ∀ c, o.op ≠ .defer c) (hb : b.roundOf = none) (h : (execOp a.eval o).run P w = .ok .recover w') {v : Value} {cs2 : List Frame}
    (hr : (tryRecover (b.atR a (.inRegion ops (i :: rest) :: k)) cs = some (v, cs2)) ∨ (tryRecover (b.atR a (.inRegion ops (i :: rest) :: k)) cs = none ∧ v = .nilIface ∧ cs2 = cs)) :
    step P (lone (b.atR a (.inRegion ops (i :: rest) :: k)) cs w) = .next (lone (b.atR (a.put o.dst v) (.inRegion ops rest :: k)) cs2 w') := by
  have hf := Frame.finish_atR b a ops i rest k v
  rw [ho] at hf
  simp only [Option.bind_some] at hf
  rw [← hf]
  have hro : (b.atR a (.inRegion ops (i :: rest) :: k)).roundOf = none := hb
  refine step_lone_go ?_
  rw [stepGR_op ho hw, Oper.semAt_eq _ _ _ hd]
  rcases hr with hr | ⟨hr, rfl, rfl⟩
  · simp [stepG.apply, Sem.runT_eq, h, hro, hr]
  · simp [stepG.apply, Sem.runT_eq, h, hro, hr]

theorem stepR_defer (ho : ops[i]? = some o) (hw : Region.wanted o (yielded ops a.tmps) = true) (hb : b.roundOf = none) {d : Deferred} (h : (execOp a.eval o).run P w = .ok (.defer d) w') :
    step P (lone (b.atR a (.inRegion ops (i :: rest) :: k)) cs w) = .next (lone (b.atR (({ a with defers := d :: a.defers } : Act).put o.dst undef) (.inRegion ops rest :: k)) cs w') := by
  have hf := Frame.finish_atR b { a with defers := d :: a.defers } ops i rest k undef
  rw [ho] at hf
  simp only [Option.bind_some] at hf
  rw [← hf]
  refine step_lone_go ?_
  rw [stepGR_op ho hw, hb, Oper.semAt_none]
  simp [stepG.apply, Sem.runT_eq, h, Frame.atR]
end

section
variable {P : Program} {L : Lv} {fi : FI} {ops : Array Oper} {i : Nat} {o : Oper}

theorem call_out (hL : LvOk P L) {s : St} (ho : ops[i]? = some o) (hw : Wants P fi s ops o true) (hdst : ∀ t, o.dst = some t → t < ntmpsOf P fi.fid) (hnd : ∀ c, o.op ≠ .defer c) {f : FuncId} {args : List AV}
    (hop : ∀ (β : Be) (a : Act), G0 β → EnvR β (maskOf P fi.fid) s.l s.e a.tmps → ∃ args', VRs β args args' ∧ ∀ w, (execOp a.eval o).run P w = (callFunc f ⟨args'⟩).run P w) {K : Loc → Env → W → Prop} {pan : KP}
    (h : L.call f args none s.σ s.nx (retK s.dfs s.u (fun v w => (put (dst (maskOf P fi.fid) o.dst)).run v s.l s.e fun l e => K l e w) pan)) : OpOut P fi ops i o s K pan := by
  obtain ⟨r, u', σ', nx', h1, h2⟩ := hL.call _ _ _ _ _ _ h
  cases r with
  | ret v =>
    obtain ⟨l', e', h3, h4, h5⟩ := put_agree h1
    exact .inl ⟨l', e', s.dfs, s.u, σ', nx', h3, h4, fun rest k => (call_ret ho hw hdst hnd hop h2).1 v l' e' rfl h5⟩
  | pan ch => exact .inr ⟨ch, s.dfs, s.u, σ', nx', h1, fun rest k => (call_ret ho hw hdst hnd hop h2).2 ch rfl⟩

theorem opX_e (hL : LvOk P L) {s : St} (ho : ops[i]? = some o) (hw : Wants P fi s ops o true) (hdst : ∀ t, o.dst = some t → t < ntmpsOf P fi.fid) {ex : EX} (hx : comp P (maskOf P fi.fid) o.op = .e ex) {K : Loc → Env → W → Prop} {pan : KP}
    (h : (opX (dst (maskOf P fi.fid) o.dst) (.e ex)).run L fi s.l s.e (.mk s.dfs s.u s.σ s.nx) K pan) : OpOut P fi ops i o s K pan := by
  have hs := comp_shape (P := P) (m := maskOf P fi.fid) o.op
  rw [hx] at hs
  clear hx
  obtain ⟨l, e, dfs, u, σ, nx⟩ := s
  obtain ⟨dst', op, ty, pos, aft, gd⟩ := o
  simp only at hs h hdst
  cases hs with
  | store t x y n hz =>
    obtain ⟨σ', h1, h2⟩ := store_spec (mk := maskOf P) (nt := ntmpsOf P) (dst := dst') (ty := ty) (pos := pos) (aft := aft) (gd := gd) (nx := nx) hz h
    exact eff_out ho hw hdst (by simp) h2 h1
  | append s x st xt et xd i' ats hat hu hxt hxd hi z hzv h0 =>
    obtain ⟨v, σ', nx', h1, h2⟩ := append_spec (mk := maskOf P) (nt := ntmpsOf P) (dst := dst') (ty := ty) (pos := pos) (aft := aft) (gd := gd) hat hu hxt hxd hi hzv h0 h
    exact eff_out ho hw hdst (by simp) h2 h1
  | copy d s t st et n ats hat hu hz =>
    obtain ⟨v, σ', h1, h2⟩ := copy_spec (mk := maskOf P) (nt := ntmpsOf P) (dst := dst') (ty := ty) (pos := pos) (aft := aft) (gd := gd) (nx := nx) hat hu hz h
    exact eff_out ho hw hdst (by simp) h2 h1
  | mapupd t kt et kd kk mp kx vx hu hkd hk =>
    obtain ⟨σ', h1, h2⟩ := mapupd_spec (mk := maskOf P) (nt := ntmpsOf P) (dst := dst') (ty := ty) (pos := pos) (aft := aft) (gd := gd) (nx := nx) hu hkd hk h
    exact eff_out ho hw hdst (by simp) h2 h1
  | range t x hu =>
    obtain ⟨v, σ', nx', h1, h2⟩ := range_spec (mk := maskOf P) (nt := ntmpsOf P) (dst := dst') (ty := ty) (pos := pos) (aft := aft) (gd := gd) hu h
    exact eff_out ho hw hdst (by simp) h2 h1
  | next x =>
    obtain ⟨v, σ', h1, h2⟩ := next_spec (mk := maskOf P) (nt := ntmpsOf P) (dst := dst') (ty := ty) (pos := pos) (aft := aft) (gd := gd) (nx := nx) h
    exact eff_out ho hw hdst (by simp) h2 h1
  | rangem t kt et x hu =>
    obtain ⟨v, σ', nx', h1, h2⟩ := rangem_spec (mk := maskOf P) (nt := ntmpsOf P) (dst := dst') (ty := ty) (pos := pos) (aft := aft) (gd := gd) hu h
    exact eff_out ho hw hdst (by simp) h2 h1
  | nextm x =>
    obtain ⟨v, h1, h2⟩ := nextm_spec (mk := maskOf P) (nt := ntmpsOf P) (P := P) (dst := dst') (ty := ty) (pos := pos) (aft := aft) (gd := gd) (nx := nx) h
    exact eff_out ho hw hdst (by simp) h2 h1
  | call f args ats =>
    obtain ⟨vs, h1, h2⟩ := evs_spec (maskOf P fi.fid) l e args.toList h
    refine call_out hL ho hw hdst (by simp) ?_ h1
    intro β a hG he
    refine ⟨_, h2 β a hG (fun x _ => he.opd x), fun w => ?_⟩
    have e1 : (#[] ++ args.map a.eval ++ #[] : Array Value) = ⟨args.toList.map a.eval⟩ := by apply Array.ext'; simp
    simp only [execOp, resolve, Act.eval, Deferred.ofValue]
    show (callFunc f (#[] ++ args.map a.eval ++ #[])).run P w = _
    rw [e1]
  | callv f args ats =>
    obtain ⟨fv, h0, hf⟩ := get_spec (maskOf P fi.fid) l e f h
    obtain ⟨vs, h1, h2⟩ := evs_spec (maskOf P fi.fid) l e args.toList h0
    cases fv <;> (try exact h1.elim)
    · rename_i fn first cap
      cases fn <;> (try exact h1.elim)
      rename_i g
      refine call_out hL ho hw hdst (by simp) ?_ h1
      intro β a hG he
      obtain ⟨g', x', c', hg, hv, hx', hc'⟩ := (hf β a hG (he.opd f)).func_inv
      cases hg
      refine ⟨x' ++ args.toList.map a.eval ++ c', (hx'.append (h2 β a hG (fun x _ => he.opd x))).append hc', fun w => ?_⟩
      have e1 : ((⟨x'⟩ : Array Value) ++ args.map a.eval ++ ⟨c'⟩ : Array Value) = ⟨x' ++ args.toList.map a.eval ++ c'⟩ := by apply Array.ext'; simp
      simp only [execOp, resolve, hv, Deferred.ofValue]
      show (callFunc g (⟨x'⟩ ++ args.map a.eval ++ ⟨c'⟩)).run P w = _
      rw [e1]
    · rename_i ly
      obtain ⟨v, σ', nx', h3, h4⟩ := hL.yield _ _ _ _ _ h1
      obtain ⟨l', e', h5, h6, h7⟩ := put_agree h3
      refine .inl ⟨l', e', dfs, u, σ', nx', h5, h6, fun rest k => yield_ret ho hw hdst (by simp) ?_ h4 h7⟩
      intro β a hG he
      obtain ⟨bl, x, hv, hbl⟩ := (hf β a hG (he.opd f)).yld_inv
      refine ⟨bl, x, args.toList.map a.eval, hbl, h2 β a hG (fun x _ => he.opd x), fun w => ?_⟩
      have e1 : (#[] ++ args.map a.eval : Array Value) = ⟨args.toList.map a.eval⟩ := by apply Array.ext'; simp
      simp only [execOp, resolve, hv, Deferred.ofValue]
      show (Instr.yield bl (#[] ++ args.map a.eval)).run P w = _
      rw [e1]
  | recover args ats =>
    have hrun : ∀ (a : Act) (w : World), (execOp a.eval ⟨dst', .call ⟨.builtin .recover, args, ats⟩, ty, pos, aft, gd⟩).run P w = .ok .recover w := by intro a w; rfl
    have h' : recoverK fi u fun v u => (put (dst (maskOf P fi.fid) dst')).run v l e fun l e => K l e (.mk dfs u σ nx) := h
    unfold recoverK at h'
    obtain ⟨fid, rnd⟩ := fi
    cases rnd with
    | some x => exact h'.elim
    | none =>
      simp only at h'
      split at h'
      · rename_i v older
        obtain ⟨l', e', h5, h6, h7⟩ := put_agree h'
        refine .inl ⟨l', e', dfs, _, σ, nx, h5, h6, fun rest k => ⟨Nat.le_refl _, fun β b a md cs0 w hs _ => ?_⟩⟩
        obtain ⟨hk, hcs, md', rfl, ch', rfl, hch⟩ := hs.u
        cases hch with
        | cons _ v' _ _ old' hv hold =>
          cases cs0 with
          | nil => exact (hcs rfl).elim
          | cons c r =>
            have st := stepR_recover (P := P) (w := w) (w' := w) (rest := rest) (k := k) (cs := withMode (some (.panicking ({ v := v', recovered := false } :: old'))) (c :: r)) (v := v') (cs2 := withMode (some (.panicking ({ v := v', recovered := true } :: old'))) (c :: r))
              ho (hw β a hs.rel.g0 hs.env) (by simp) hs.rnd (hrun a w) (.inl (by
                have hkk : (b.atR a (.inRegion ops (i :: rest) :: k)).kind = .deferred := hk
                unfold tryRecover
                rw [hkk]
                rfl))
            refine ⟨β, _, _, w, .one st, ⟨hs.fn, hs.rnd, ⟨hk, hcs, _, rfl, _, rfl, .cons _ _ _ _ _ hv hold⟩, h7 β a v' hs.env hv (fun t ht => by rw [hs.size]; exact hdst t ht), by rw [put_size]; exact hs.size, by rw [put_defers]; exact hs.dfs, hs.rel⟩, Fr.refl _ _ _ _⟩
      · rename_i hno
        obtain ⟨l', e', h5, h6, h7⟩ := put_agree h'
        refine .inl ⟨l', e', dfs, u, σ, nx, h5, h6, fun rest k => ⟨Nat.le_refl _, fun β b a md cs0 w hs _ => ?_⟩⟩
        have hnone : tryRecover (b.atR a (.inRegion ops (i :: rest) :: k)) (withMode md cs0) = none := by
          have hu := hs.u
          simp only at hu
          cases u with
          | none =>
            have hkk : (b.atR a (.inRegion ops (i :: rest) :: k)).kind = .normal := hu.1
            unfold tryRecover
            rw [hkk]
          | some mo =>
            obtain ⟨hk, hcs, md', rfl, hm⟩ := hu
            have hkk : (b.atR a (.inRegion ops (i :: rest) :: k)).kind = .deferred := hk
            cases cs0 with
            | nil => exact (hcs rfl).elim
            | cons c r =>
              unfold tryRecover
              rw [hkk]
              cases mo with
              | none => cases hm; rfl
              | some ch =>
                obtain ⟨ch', rfl, hch⟩ := hm
                cases hch with
                | nil => rfl
                | cons v v' t l l' hv hl =>
                  cases t with
                  | true => rfl
                  | false => exact (hno v l rfl).elim
        have st := stepR_recover (P := P) (w := w) (w' := w) (rest := rest) (k := k) (cs := withMode md cs0) (v := .nilIface) (cs2 := withMode md cs0) ho (hw β a hs.rel.g0 hs.env) (by simp) hs.rnd (hrun a w) (.inr ⟨hnone, rfl, rfl⟩)
        exact ⟨β, _, md, w, .one st, hs.put (fun _ _ h => h) .nilIface hdst h7 hs.rel, Fr.refl _ _ _ _⟩
  | defer f args ats =>
    obtain ⟨fv, h0, hf⟩ := get_spec (maskOf P fi.fid) l e f h
    obtain ⟨vs, h1, h2⟩ := evs_spec (maskOf P fi.fid) l e args.toList h0
    have h' : deferK fi fv vs dfs fun dfs => (put (dst (maskOf P fi.fid) dst')).run (.tuple []) l e fun l e => K l e (.mk dfs u σ nx) := h1
    unfold deferK at h'
    obtain ⟨fid, rnd⟩ := fi
    cases rnd with
    | some x => exact h'.elim
    | none =>
      simp only at h'
      split at h'
      · rename_i g x c
        obtain ⟨l', e', h5, h6, h7⟩ := put_agree h'
        refine .inl ⟨l', e', _, u, σ, nx, h5, h6, fun rest k => ⟨Nat.le_refl _, fun β b a md cs0 w hs _ => ?_⟩⟩
        obtain ⟨g', x', c', hg, hv, hx', hc'⟩ := (hf β a hs.rel.g0 (hs.env.opd f)).func_inv
        cases hg
        have hargs := h2 β a hs.rel.g0 (fun x _ => hs.env.opd x)
        have e1 : ((⟨x'⟩ : Array Value) ++ args.map a.eval : Array Value) = ⟨x' ++ args.toList.map a.eval⟩ := by apply Array.ext'; simp
        have hrun : (execOp a.eval ⟨dst', .defer ⟨.value f, args, ats⟩, ty, pos, aft, gd⟩).run P w = .ok (.defer { target := .fn (.func g) ⟨c'⟩, args := ⟨x' ++ args.toList.map a.eval⟩ }) w := by
          simp only [execOp, resolve, hv, Deferred.ofValue, e1]
          rfl
        have st := stepR_defer (P := P) (w := w) (w' := w) (rest := rest) (k := k) (cs := withMode md cs0) ho (hw β a hs.rel.g0 hs.env) hs.rnd hrun
        refine ⟨β, _, md, w, .one st, ⟨hs.fn, hs.rnd, hs.u, ?_, by rw [put_size]; exact hs.size, by rw [put_defers]; exact .call g x c vs x' c' _ dfs _ hx' hc' hargs hs.dfs, hs.rel⟩, Fr.refl _ _ _ _⟩
        exact h7 β { a with defers := _ } undef hs.env (.tuple [] [] .nil) (fun t ht => by show t < a.tmps.size; rw [hs.size]; exact hdst t ht)
      · exact h'.elim
end
end Go.AE
namespace Go.AE
open Go

section
variable {P : Program} {L : Lv} {fi : FI} {ops : Array Oper}

theorem guardK_spec {v : AV} {w : Bool} {c : Bool → Prop} (h : guardK v w c) : ∃ r, c r ∧ ((∃ bb, v = .bool bb ∧ r = (bb == w)) ∨ (v = .tuple [] ∧ r = false)) := by
  cases v <;> (try exact h.elim)
  · rename_i b
    have h' : forceBool (b == w) c := h
    rw [forceBool_eq] at h'
    exact ⟨_, h', .inl ⟨b, rfl, rfl⟩⟩
  · rename_i vs
    cases vs with
    | nil => exact ⟨false, h, .inr ⟨rfl, rfl⟩⟩
    | cons _ _ => exact h.elim

theorem opX_sound (hL : LvOk P L) {i : Nat} {o : Oper} {s : St} (ho : ops[i]? = some o) (hw : Wants P fi s ops o true) (hdst : ∀ t, o.dst = some t → t < ntmpsOf P fi.fid) {K : Loc → Env → W → Prop} {pan : KP}
    (h : (opX (dst (maskOf P fi.fid) o.dst) (comp P (maskOf P fi.fid) o.op)).run L fi s.l s.e (.mk s.dfs s.u s.σ s.nx) K pan) : OpOut P fi ops i o s K pan := by
  cases hx : comp P (maskOf P fi.fid) o.op with
  | p px => rw [hx] at h; exact opX_p ho hw hdst hx h
  | r rx => rw [hx] at h; exact opX_r ho hw hdst hx h
  | a ax => rw [hx] at h; exact opX_a ho hw hdst hx h
  | e ex => rw [hx] at h; exact opX_e hL ho hw hdst hx h
  | bad o' => rw [hx] at h; exact h.elim

theorem op_sound (hL : LvOk P L) {i : Nat} {o : Oper} {s : St} (ho : ops[i]? = some o) (hdst : ∀ t, o.dst = some t → t < ntmpsOf P fi.fid) {aop : AOp} (hc : compOp P (maskOf P fi.fid) ops o = some aop) {K : Loc → Env → W → Prop} {pan : KP}
    (h : aop.run L fi s.l s.e (.mk s.dfs s.u s.σ s.nx) K pan) : OpOut P fi ops i o s K pan := by
  unfold compOp at hc
  split at hc
  · rename_i hg
    cases hc
    exact opX_sound hL ho (wants_none hg) hdst h
  · rename_i j w hg
    split at hc
    · rename_i t ht
      cases hc
      obtain ⟨g, h1, h2⟩ := get_spec (maskOf P fi.fid) s.l s.e (.tmp t) h
      obtain ⟨r, h3, h4⟩ := guardK_spec h1
      have hw := wants_some (P := P) (fi := fi) (ops := ops) (o := o) (s := s) hg ht h2 h4
      rw [ite'_eq] at h3
      cases r with
      | true => exact opX_sound hL ho hw hdst h3
      | false =>
        simp only [Bool.false_eq_true, if_false] at h3
        obtain ⟨l', e', h5, h6, h7⟩ := put_agree h3
        exact .inl ⟨l', e', s.dfs, s.u, s.σ, s.nx, h5, h6, fun rest k => goes_skip ho hw hdst h7⟩
    · cases hc

/-- what is no destination of any stays -/
def AgreeAll (m : Nat) (os : List Oper) (e e' : Env) : Prop := ∀ p, p ∉ dstVars m os → T.get p e' = T.get p e
theorem agree_vars {m : Nat} {os : List Oper} {o : Oper} (hmem : o ∈ os) {e e' : Env} (h : Agree m o.dst e e') : AgreeAll m os e e' := by
  intro p hp
  refine h p fun t ht hb hpt => hp ?_
  subst hpt
  clear h hp
  induction os with
  | nil => cases hmem
  | cons o2 os ih =>
    simp only [dstVars]
    rcases List.mem_cons.1 hmem with rfl | hm
    · rw [ht]; simp [hb]
    · have := ih hm
      split
      · cases bit m _ <;> simp [this]
      · exact this

theorem ops_sound (hL : LvOk P L) (hall : ∀ o ∈ ops.toList, ∀ t, o.dst = some t → t < ntmpsOf P fi.fid) : ∀ (os : List Oper) (i : Nat), ops.toList.drop i = os → ∀ {aops : List AOp}, compOps P (maskOf P fi.fid) ops os = some aops →
    ∀ (s : St) {K : KX} {pan : KP}, runOps L fi pan aops s.l s.e (.mk s.dfs s.u s.σ s.nx) K →
    (∃ s', K .normal s'.e (.mk s'.dfs s'.u s'.σ s'.nx) ∧ ∀ k, Goes P fi s s' (.inRegion ops (List.range' i os.length) :: k) (.inRegion ops [] :: k)) ∨
    (∃ ch s', pan ch (.mk s'.dfs s'.u s'.σ s'.nx) ∧ AgreeAll (maskOf P fi.fid) ops.toList s.e s'.e ∧ ∀ k, GoesP P fi s s' (.inRegion ops (List.range' i os.length) :: k) ch)
  | [], i, _, aops, hc, s, K, pan, h => by
    simp only [compOps, Option.some.injEq] at hc
    subst hc
    exact .inl ⟨s, h, fun k => Goes.refl _ _ _ _⟩
  | o :: os, i, hd, aops, hc, s, K, pan, h => by
    have ho : ops[i]? = some o := by
      have : (ops.toList.drop i)[0]? = some o := by rw [hd]; rfl
      rw [List.getElem?_drop] at this
      simpa using this
    have hmem : o ∈ ops.toList := by
      have : o ∈ ops.toList.drop i := by rw [hd]; simp
      exact List.mem_of_mem_drop this
    have hd2 : ops.toList.drop (i + 1) = os := by
      rw [← List.drop_drop, hd]; rfl
    simp only [compOps] at hc
    split at hc
    · rename_i aop al h1 h2
      cases hc
      have h' : aop.run L fi s.l s.e (.mk s.dfs s.u s.σ s.nx) (fun l env w => runOps L fi pan al l env w K) pan := h
      rcases op_sound hL ho (hall o hmem) h1 h' with ⟨l', e', dfs', u', σ', nx', k1, k2, k3⟩ | ⟨ch, dfs', u', σ', nx', k1, k3⟩
      · rcases ops_sound hL hall os (i + 1) hd2 h2 ⟨l', e', dfs', u', σ', nx'⟩ k1 with ⟨s', q1, q2⟩ | ⟨ch, s', q1, q2, q3⟩
        · exact .inl ⟨s', q1, fun k => (k3 _ k).trans (q2 k)⟩
        · refine .inr ⟨ch, s', q1, fun p hp => ?_, fun k => (k3 _ k).panic (q3 k)⟩
          rw [q2 p hp]
          exact agree_vars hmem k2 p hp
      · exact .inr ⟨ch, ⟨s.l, s.e, dfs', u', σ', nx'⟩, k1, fun p hp => rfl, fun k => k3 _ k⟩
    · cases hc

theorem eraseAll_spec : ∀ (ps : List Pos) {e : Env} {c : Env → Prop}, eraseAll ps e c → ∃ e', c e' ∧ ∀ p, T.get p e' = if p ∈ ps then none else T.get p e
  | [], e, c, h => ⟨e, h, by simp⟩
  | q :: ps, e, c, h => by
    have h' : T.set q e none fun e => eraseAll ps e c := h
    obtain ⟨e1, h1, h2⟩ := T.set_spec _ _ _ _ h'
    obtain ⟨e2, h3, h4⟩ := eraseAll_spec ps h1
    refine ⟨e2, h3, fun p => ?_⟩
    rw [h4, h2]
    by_cases hp : p ∈ ps
    · simp [hp]
    · by_cases hq : p = q
      · simp [hq]
      · simp [hp, hq]

theorem dstsIn_spec {N : Nat} : ∀ {os : List Oper}, dstsIn N os = true → ∀ o ∈ os, ∀ t, o.dst = some t → t < N
  | [], _, o, ho, _, _ => by cases ho
  | o :: os, h, o', ho, t, ht => by
    simp only [dstsIn, Bool.and_eq_true] at h
    rcases List.mem_cons.1 ho with rfl | hm
    · rw [ht] at h
      simpa [blt_iff] using h.1
    · exact dstsIn_spec h.2 o' hm t ht

/-- the locals of a region are dropped -/
theorem StR.drop {s : St} {β : Be} {b : Frame} {a : Act} {md : Option FrameMode} {cs0 : List Frame} {w : World} (h : StR P fi s β b a md cs0 w) {e' : Env} (he : ∀ p v, T.get p e' = some v → T.get p s.e = some v) :
    StR P fi ⟨.nil, e', s.dfs, s.u, s.σ, s.nx⟩ β b a md cs0 w := by
  refine ⟨h.fn, h.rnd, h.u, ?_, h.size, h.dfs, h.rel⟩
  intro t v hv
  refine h.env t v ?_
  unfold look at hv ⊢
  by_cases hb : bit (maskOf P fi.fid) t = true
  · rw [if_pos hb] at hv ⊢; exact he _ _ hv
  · rw [if_neg hb] at hv; simp [Loc.get] at hv

/-- a region in the text's order -/
theorem region_plain (hL : LvOk P L) {id : Nat} (hdsts : dstsIn (ntmpsOf P fi.fid) ops.toList = true) {aops : List AOp} (hc : compOps P (maskOf P fi.fid) ops ops.toList = some aops) (env : Env) (dfs : List DF) (u : U) (σ : Heap) (nx : Pos) {K : KX}
    (h : runOps L fi (panK (maskOf P fi.fid) ops env K) aops .nil env (.mk dfs u σ nx) K) :
    ∃ e env' dfs' u' σ' nx', K e env' (.mk dfs' u' σ' nx') ∧ ExecOk P fi (.region id ops false) ⟨.nil, env, dfs, u, σ, nx⟩ e ⟨.nil, env', dfs', u', σ', nx'⟩ := by
  have hr : List.range ops.size = List.range' 0 ops.toList.length := by rw [List.range_eq_range', Array.length_toList]
  rcases ops_sound hL (dstsIn_spec hdsts) ops.toList 0 (by simp) hc ⟨.nil, env, dfs, u, σ, nx⟩ h with ⟨s', h1, h2⟩ | ⟨ch, s', h1, h2, h3⟩
  · refine ⟨.normal, s'.e, s'.dfs, s'.u, s'.σ, s'.nx, h1, (h2 []).1, fun β b a md cs0 w k hs hf => ?_⟩
    obtain ⟨β', a', md', w', q1, q2, q3⟩ := (h2 k).2 β b a md cs0 w hs hf
    refine ⟨β', a', md', w', ?_, q2.drop (fun _ _ h => h), q3⟩
    rw [← hr] at q1
    exact (Steps.head stepR_region q1).trans (.one stepR_region_end)
  · obtain ⟨e2, h4, h5⟩ := eraseAll_spec _ h1
    refine ⟨.panic ch, e2, s'.dfs, s'.u, s'.σ, s'.nx, h4, (h3 []).1, fun β b a md cs0 w k hs hf => ?_⟩
    obtain ⟨β', a', md', w', todo, ch', q0, q1, q2, q3⟩ := (h3 k).2 β b a md cs0 w hs hf
    rw [← hr] at q1
    refine ⟨β', a', md', w', ⟨todo, ch', q0, Steps.head stepR_region q1⟩, q2.drop (fun p v hv => ?_), q3⟩
    rw [h5] at hv
    by_cases hp : p ∈ dstVars (maskOf P fi.fid) ops.toList
    · simp [hp] at hv
    · simp only [hp, if_false] at hv
      rw [h2 p hp]; exact hv
end
end Go.AE
namespace Go.AE
open Go

section
variable {P : Program} {fi : FI}

/-- behind steps that leave the state as it was -/
theorem ExecFrom.head {T T' : List Item → List Item} {s s' : St} {e : AExit} (hst : ∀ (b : Frame) (a : Act) (cs : List Frame) (w : World) (k : List Item), Steps P (lone (b.atR a (T k)) cs w) (lone (b.atR a (T' k)) cs w))
    (h : ExecFrom P fi T' s e s') : ExecFrom P fi T s e s' := by
  refine ⟨h.1, fun β b a md cs0 w k hs hf => ?_⟩
  obtain ⟨β', a', md', w', q1, q2, q3⟩ := h.2 β b a md cs0 w k hs hf
  exact ⟨β', a', md', w', .of_steps (hst b a _ w k) q1, q2, q3⟩

/-- one code, then the rest of the items -/
theorem ExecFrom.seq {T T2 : List Item → List Item} {s s1 s2 : St} {e : AExit} (h1 : ExecFrom P fi T s .normal s1) (h2 : ExecFrom P fi T2 s1 e s2) : ExecFrom P fi (fun k => T (T2 k)) s e s2 := by
  refine ⟨Nat.le_trans h1.1 h2.1, fun β b a md cs0 w k hs hf => ?_⟩
  obtain ⟨β1, a1, md1, w1, q1, q2, q3⟩ := h1.2 β b a md cs0 w (T2 k) hs (hf.left h2.1)
  obtain ⟨β2, a2, md2, w2, r1, r2, r3⟩ := h2.2 β1 b a1 md1 cs0 w1 k q2 (hf.right q3)
  exact ⟨β2, a2, md2, w2, .of_steps q1 r1, r2, q3.trans r3⟩

/-- it is left ahead of the rest -/
theorem ExecFrom.leave {T : List Item → List Item} {x : Item} (hx : ∀ id k, exitTo id (x :: k) = exitTo id k) {s s1 : St} {e : AExit} (hne : e ≠ .normal) (h1 : ExecFrom P fi T s e s1) : ExecFrom P fi (fun k => T (x :: k)) s e s1 := by
  refine ⟨h1.1, fun β b a md cs0 w k hs hf => ?_⟩
  obtain ⟨β1, a1, md1, w1, q1, q2, q3⟩ := h1.2 β b a md cs0 w (x :: k) hs hf
  refine ⟨β1, a1, md1, w1, ?_, q2, q3⟩
  cases e with
  | normal => exact (hne rfl).elim
  | exit id =>
    obtain ⟨k2, z1, z2⟩ := q1
    refine ⟨k2, ?_, z2⟩
    rw [z1, hx]
  | ret => exact q1
  | panic ch => exact q1

theorem exec_item {T : List Item → List Item} {x : Item} {s s1 : St} (h1 : ExecFrom P fi T s .normal s1) (hst : ∀ (b : Frame) (a : Act) (cs : List Frame) (w : World) (k : List Item), Steps P (lone (b.atR a (x :: k)) cs w) (lone (b.atR a k) cs w)) :
    ExecFrom P fi (fun k => T (x :: k)) s .normal s1 := by
  refine ⟨h1.1, fun β b a md cs0 w k hs hf => ?_⟩
  obtain ⟨β1, a1, md1, w1, q1, q2, q3⟩ := h1.2 β b a md cs0 w (x :: k) hs hf
  exact ⟨β1, a1, md1, w1, Steps.trans q1 (hst b a1 _ w1 k), q2, q3⟩

theorem exec_at {code : Code} {e : AExit} {s : St} (h : ∀ (b : Frame) (a : Act) (cs : List Frame) (w : World) (k : List Item) (β : Be), ArrR P (lone (b.atR a (.code code :: k)) cs w) b k cs β e a w) : ExecOk P fi code s e s :=
  ⟨Nat.le_refl _, fun β b a md _ w k hs _ => ⟨β, a, md, w, h b a _ w k β, hs, Fr.refl _ _ _ _⟩⟩

/-- a region that draws its order -/
def DrawOk (P : Program) : Prop := ∀ L, LvOk P L → ∀ fi id ops env dfs u σ nx K, runRegion P L fi ops true env (.mk dfs u σ nx) K →
  ∃ e env' dfs' u' σ' nx', K e env' (.mk dfs' u' σ' nx') ∧ ExecOk P fi (.region id ops true) ⟨.nil, env, dfs, u, σ, nx⟩ e ⟨.nil, env', dfs', u', σ', nx'⟩
/-- a range over a function -/
def RangeOk (P : Program) : Prop := ∀ L, LvOk P L → ∀ fi f params assign body env dfs u σ nx K, execF P L fi (.rangeFunc f params assign body) env (.mk dfs u σ nx) K →
  ∃ e env' dfs' u' σ' nx', K e env' (.mk dfs' u' σ' nx') ∧ ExecOk P fi (.rangeFunc f params assign body) ⟨.nil, env, dfs, u, σ, nx⟩ e ⟨.nil, env', dfs', u', σ', nx'⟩

theorem loop_sound {L : Lv} (hL : LvOk P L) {x : Code} {env : Env} {dfs : List DF} {u : U} {σ : Heap} {nx : Pos} {K : KX} (h : execF P L fi (.loop x) env (.mk dfs u σ nx) K) :
    ∃ e env' dfs' u' σ' nx', K e env' (.mk dfs' u' σ' nx') ∧ ExecFrom P fi (fun k => .code x :: .inLoop x :: k) ⟨.nil, env, dfs, u, σ, nx⟩ e ⟨.nil, env', dfs', u', σ', nx'⟩ := by
  obtain ⟨e, env1, dfs1, u1, σ1, nx1, h1, h2, _⟩ := hL.exec fi x env dfs u σ nx _ h
  cases e with
  | normal =>
    obtain ⟨e, env2, dfs2, u2, σ2, nx2, h3, h4, h5⟩ := hL.exec fi (.loop x) env1 dfs1 u1 σ1 nx1 _ h1
    exact ⟨e, env2, dfs2, u2, σ2, nx2, h3, ExecFrom.seq (T := fun k => .code x :: k) (T2 := fun k => .inLoop x :: k) h2 (h5 x rfl)⟩
  | exit id => exact ⟨_, env1, dfs1, u1, σ1, nx1, h1, ExecFrom.leave (T := fun k => .code x :: k) (x := .inLoop x) (fun _ _ => rfl) (by simp) h2⟩
  | ret => exact ⟨_, env1, dfs1, u1, σ1, nx1, h1, ExecFrom.leave (T := fun k => .code x :: k) (x := .inLoop x) (fun _ _ => rfl) (by simp) h2⟩
  | panic ch => exact ⟨_, env1, dfs1, u1, σ1, nx1, h1, ExecFrom.leave (T := fun k => .code x :: k) (x := .inLoop x) (fun _ _ => rfl) (by simp) h2⟩
theorem stepR_scope {b : Frame} {a : Act} {k : List Item} {cs : List Frame} {w : World} {c : Code} : step P (lone (b.atR a (.code (.scope c) :: k)) cs w) = .next (lone (b.atR a (.code c :: .inScope c :: k)) cs w) :=
  step_lone_go (by simp [stepG, stepG.exec, Frame.atR])
theorem stepR_inScope {b : Frame} {a : Act} {k : List Item} {cs : List Frame} {w : World} {c : Code} : step P (lone (b.atR a (.inScope c :: k)) cs w) = .next (lone (b.atR a k) cs w) :=
  step_lone_go (by simp [stepG, stepG.exec, Frame.atR])

theorem exec_sound (hD : DrawOk P) (hR : RangeOk P) {L : Lv} (hL : LvOk P L) : ∀ fi code env dfs u σ nx K, execF P L fi code env (.mk dfs u σ nx) K →
    ∃ e env' dfs' u' σ' nx', K e env' (.mk dfs' u' σ' nx') ∧ ExecOk P fi code ⟨.nil, env, dfs, u, σ, nx⟩ e ⟨.nil, env', dfs', u', σ', nx'⟩ := by
  intro fi code env dfs u σ nx K h
  cases code with
  | skip => exact ⟨.normal, env, dfs, u, σ, nx, h, exec_at fun b a cs w k β => .one stepR_skip⟩
  | label l => exact ⟨.normal, env, dfs, u, σ, nx, h, exec_at fun b a cs w k β => .one stepR_label⟩
  | region id ops draw =>
    cases draw with
    | true => exact hD L hL fi id ops env dfs u σ nx K h
    | false =>
      have h' : runRegion P L fi ops false env (.mk dfs u σ nx) K := h
      unfold runRegion ready plan at h'
      cases hd : dstsIn (ntmpsOf P fi.fid) ops.toList with
      | false => rw [hd] at h'; exact h'.elim
      | true =>
        rw [hd] at h'
        simp only [cond_true] at h'
        cases hc : compOps P (maskOf P fi.fid) ops ops.toList with
        | none => rw [hc] at h'; exact h'.elim
        | some aops => rw [hc] at h'; exact region_plain hL hd hc env dfs u σ nx h'
  | seq x y =>
    obtain ⟨e, env1, dfs1, u1, σ1, nx1, h1, h2, _⟩ := hL.exec fi x env dfs u σ nx _ h
    have hseq : ∀ (b : Frame) (a : Act) (cs : List Frame) (w : World) (k : List Item), Steps P (lone (b.atR a (.code (.seq x y) :: k)) cs w) (lone (b.atR a (.code x :: .code y :: k)) cs w) := fun b a cs w k => .one stepR_seq
    cases e with
    | normal =>
      obtain ⟨e, env2, dfs2, u2, σ2, nx2, h3, h4, _⟩ := hL.exec fi y env1 dfs1 u1 σ1 nx1 _ h1
      exact ⟨e, env2, dfs2, u2, σ2, nx2, h3, ExecFrom.head hseq (ExecFrom.seq (T2 := fun k => .code y :: k) h2 h4)⟩
    | exit id => exact ⟨_, env1, dfs1, u1, σ1, nx1, h1, ExecFrom.head hseq (ExecFrom.leave (x := .code y) (fun _ _ => rfl) (by simp) h2)⟩
    | ret => exact ⟨_, env1, dfs1, u1, σ1, nx1, h1, ExecFrom.head hseq (ExecFrom.leave (x := .code y) (fun _ _ => rfl) (by simp) h2)⟩
    | panic ch => exact ⟨_, env1, dfs1, u1, σ1, nx1, h1, ExecFrom.head hseq (ExecFrom.leave (x := .code y) (fun _ _ => rfl) (by simp) h2)⟩
  | cond c x y =>
    have h' : (get (xo (maskOf P fi.fid) c)).run .nil env fun v => condK v (L.exec fi x env (.mk dfs u σ nx) K) (L.exec fi y env (.mk dfs u σ nx) K) := h
    obtain ⟨v, h1, h2⟩ := get_spec (maskOf P fi.fid) .nil env c h'
    cases v <;> (try exact h1.elim)
    rename_i t
    have h1' : ite' t (L.exec fi x env (.mk dfs u σ nx) K) (L.exec fi y env (.mk dfs u σ nx) K) := h1
    have fin : ∀ z, (if t then x else y) = z → L.exec fi z env (.mk dfs u σ nx) K →
        ∃ e env' dfs' u' σ' nx', K e env' (.mk dfs' u' σ' nx') ∧ ExecOk P fi (.cond c x y) ⟨.nil, env, dfs, u, σ, nx⟩ e ⟨.nil, env', dfs', u', σ', nx'⟩ := by
      intro z hz h3
      obtain ⟨e, env1, dfs1, u1, σ1, nx1, h4, h5, _⟩ := hL.exec fi z env dfs u σ nx _ h3
      refine ⟨e, env1, dfs1, u1, σ1, nx1, h4, h5.1, fun β b a md cs0 w k hs hf => ?_⟩
      obtain ⟨β', a', md', w', q1, q2, q3⟩ := h5.2 β b a md cs0 w k hs hf
      have hev := (h2 β a hs.rel.g0 (hs.env.opd c)).bool_inv
      refine ⟨β', a', md', w', .of_steps (.one (stepR_cond hev)) ?_, q2, q3⟩
      rw [hz]; exact q1
    cases t with
    | true => exact fin x rfl h1'
    | false => exact fin y rfl h1'
  | block id x =>
    obtain ⟨e, env1, dfs1, u1, σ1, nx1, h1, h2, _⟩ := hL.exec fi x env dfs u σ nx _ h
    have hb : ∀ (b : Frame) (a : Act) (cs : List Frame) (w : World) (k : List Item), Steps P (lone (b.atR a (.code (.block id x) :: k)) cs w) (lone (b.atR a (.code x :: .inBlock id :: k)) cs w) := fun b a cs w k => .one stepR_block
    have pass : ∀ e', e' ≠ .normal → (∀ id', e' ≠ .exit id') → ExecOk P fi x ⟨.nil, env, dfs, u, σ, nx⟩ e' ⟨.nil, env1, dfs1, u1, σ1, nx1⟩ → ExecOk P fi (.block id x) ⟨.nil, env, dfs, u, σ, nx⟩ e' ⟨.nil, env1, dfs1, u1, σ1, nx1⟩ := by
      intro e' hn hne h3
      refine ExecFrom.head (T' := fun k => .code x :: .inBlock id :: k) hb ⟨h3.1, fun β b a md cs0 w k hs hf => ?_⟩
      obtain ⟨β', a', md', w', q1, q2, q3⟩ := h3.2 β b a md cs0 w (.inBlock id :: k) hs hf
      refine ⟨β', a', md', w', ?_, q2, q3⟩
      cases e' with
      | normal => exact (hn rfl).elim
      | exit id' => exact (hne id' rfl).elim
      | ret => exact q1
      | panic ch => exact q1
    cases e with
    | normal => exact ⟨.normal, env1, dfs1, u1, σ1, nx1, h1, ExecFrom.head hb (exec_item (T := fun k => .code x :: k) (x := .inBlock id) h2 fun b a cs w k => .one stepR_inBlock)⟩
    | exit id' =>
      have h1' : ite' (Nat.beq id' id) (K .normal env1 (.mk dfs1 u1 σ1 nx1)) (K (.exit id') env1 (.mk dfs1 u1 σ1 nx1)) := h1
      rw [ite'_eq, beq_dec] at h1'
      by_cases hid : id' = id
      · subst hid
        simp only [decide_true, if_true] at h1'
        refine ⟨.normal, env1, dfs1, u1, σ1, nx1, h1', ExecFrom.head (T' := fun k => .code x :: .inBlock id' :: k) hb ⟨h2.1, fun β b a md cs0 w k hs hf => ?_⟩⟩
        obtain ⟨β', a', md', w', ⟨k2, q1, q1'⟩, q2, q3⟩ := h2.2 β b a md cs0 w (.inBlock id' :: k) hs hf
        have : exitTo id' k2 = some k := by rw [q1]; simp [exitTo]
        exact ⟨β', a', md', w', q1'.trans (.one (stepR_exit this)), q2, q3⟩
      · simp only [hid, decide_false, Bool.false_eq_true, if_false] at h1'
        refine ⟨.exit id', env1, dfs1, u1, σ1, nx1, h1', ExecFrom.head (T' := fun k => .code x :: .inBlock id :: k) hb ⟨h2.1, fun β b a md cs0 w k hs hf => ?_⟩⟩
        obtain ⟨β', a', md', w', ⟨k2, q1, q1'⟩, q2, q3⟩ := h2.2 β b a md cs0 w (.inBlock id :: k) hs hf
        have hne : (id == id') = false := by simp; exact fun h => hid h.symm
        exact ⟨β', a', md', w', ⟨k2, by rw [q1]; simp [exitTo, hne], q1'⟩, q2, q3⟩
    | ret => exact ⟨_, env1, dfs1, u1, σ1, nx1, h1, pass _ (by simp) (by simp) h2⟩
    | panic ch => exact ⟨_, env1, dfs1, u1, σ1, nx1, h1, pass _ (by simp) (by simp) h2⟩
  | loop x =>
    obtain ⟨e, env1, dfs1, u1, σ1, nx1, h1, h2⟩ := loop_sound (fi := fi) hL h
    exact ⟨e, env1, dfs1, u1, σ1, nx1, h1, ExecFrom.head (fun b a cs w k => .one stepR_loop) h2⟩
  | scope x =>
    obtain ⟨e, env1, dfs1, u1, σ1, nx1, h1, h2, _⟩ := hL.exec fi x env dfs u σ nx _ h
    have hb : ∀ (b : Frame) (a : Act) (cs : List Frame) (w : World) (k : List Item), Steps P (lone (b.atR a (.code (.scope x) :: k)) cs w) (lone (b.atR a (.code x :: .inScope x :: k)) cs w) := fun b a cs w k => .one stepR_scope
    cases e with
    | normal => exact ⟨.normal, env1, dfs1, u1, σ1, nx1, h1, ExecFrom.head hb (exec_item (T := fun k => .code x :: k) (x := .inScope x) h2 fun b a cs w k => .one stepR_inScope)⟩
    | exit id => exact ⟨_, env1, dfs1, u1, σ1, nx1, h1, ExecFrom.head hb (ExecFrom.leave (T := fun k => .code x :: k) (x := .inScope x) (fun _ _ => rfl) (by simp) h2)⟩
    | ret => exact ⟨_, env1, dfs1, u1, σ1, nx1, h1, ExecFrom.head hb (ExecFrom.leave (T := fun k => .code x :: k) (x := .inScope x) (fun _ _ => rfl) (by simp) h2)⟩
    | panic ch => exact ⟨_, env1, dfs1, u1, σ1, nx1, h1, ExecFrom.head hb (ExecFrom.leave (T := fun k => .code x :: k) (x := .inScope x) (fun _ _ => rfl) (by simp) h2)⟩
  | exit id => exact ⟨.exit id, env, dfs, u, σ, nx, h, exec_at fun b a cs w k β => ⟨k, rfl, Steps.refl _ _⟩⟩
  | ret => exact ⟨.ret, env, dfs, u, σ, nx, h, exec_at fun b a cs w k β => ⟨k, Steps.refl _ _⟩⟩
  | rangeFunc f ps x y => exact hR L hL fi f ps x y env dfs u σ nx K h
  | goto l => exact h.elim
  | refuse why => exact h.elim

theorem exec_sound' (hD : DrawOk P) (hR : RangeOk P) {L : Lv} (hL : LvOk P L) : ∀ fi code env dfs u σ nx K, execF P L fi code env (.mk dfs u σ nx) K →
    ∃ e env' dfs' u' σ' nx', K e env' (.mk dfs' u' σ' nx') ∧ ExecOk P fi code ⟨.nil, env, dfs, u, σ, nx⟩ e ⟨.nil, env', dfs', u', σ', nx'⟩ ∧ LoopOk P fi code ⟨.nil, env, dfs, u, σ, nx⟩ e ⟨.nil, env', dfs', u', σ', nx'⟩ := by
  intro fi code env dfs u σ nx K h
  by_cases hc : ∃ x, code = .loop x
  · obtain ⟨x, rfl⟩ := hc
    obtain ⟨e, env1, dfs1, u1, σ1, nx1, h1, h2⟩ := loop_sound (fi := fi) hL h
    refine ⟨e, env1, dfs1, u1, σ1, nx1, h1, ExecFrom.head (fun b a cs w k => .one stepR_loop) h2, fun y hy => ?_⟩
    cases hy
    exact ExecFrom.head (fun b a cs w k => .one stepR_inLoop) h2
  · obtain ⟨e, env1, dfs1, u1, σ1, nx1, h1, h2⟩ := exec_sound hD hR hL fi code env dfs u σ nx K h
    exact ⟨e, env1, dfs1, u1, σ1, nx1, h1, h2, fun y hy => (hc ⟨y, hy⟩).elim⟩
end
end Go.AE
namespace Go.AE
open Go

theorem env0_spec : ∀ (args : List AV) (i : Pos) (e : Env) {c : Env → Prop}, env0 args i e c →
    ∃ e', c e' ∧ ∀ p, T.get p e' = if i.toNat ≤ p.toNat ∧ p.toNat < i.toNat + args.length then args[p.toNat - i.toNat]? else T.get p e
  | [], i, e, c, h => ⟨e, h, fun p => by rw [if_neg]; intro h; simp at h; omega⟩
  | v :: args, i, e, c, h => by
    have h' : T.set i e (some v) fun e => env0 args i.succ e c := h
    obtain ⟨e1, h1, h2⟩ := T.set_spec _ _ _ _ h'
    obtain ⟨e2, h3, h4⟩ := env0_spec args i.succ e1 h1
    refine ⟨e2, h3, fun p => ?_⟩
    rw [h4, h2, Pos.toNat_succ]
    simp only [List.length_cons]
    by_cases hp : p = i
    · subst hp
      rw [if_neg (by omega), if_pos rfl, if_pos (by omega)]
      simp
    · have hne : p.toNat ≠ i.toNat := fun h => hp (Pos.toNat_inj h)
      rw [if_neg hp]
      by_cases hr : i.toNat + 1 ≤ p.toNat ∧ p.toNat < i.toNat + 1 + args.length
      · rw [if_pos hr, if_pos (by omega)]
        rw [show p.toNat - i.toNat = (p.toNat - (i.toNat + 1)) + 1 by omega, List.getElem?_cons_succ]
      · rw [if_neg hr, if_neg (by omega)]

section
variable {P : Program} {m : Nat}

/-- one result, as the machine reads it -/
def resSem (tmps : Array Value) : ResultVar → Sem Value
  | .tmp t => pure (tmps.getD t undef)
  | .cell a t => do loadVar t (← asAddr (tmps.getD a undef))

theorem EnvR.getD {β : Be} {l : Loc} {e : Env} {tmps : Array Value} (h : EnvR β m l e tmps) {t : Nat} {v : AV} (hv : look m l e t = some v) : VR β v (tmps.getD t undef) := by
  obtain ⟨v', h1, h2⟩ := h t v hv
  rw [Array.getD_eq_getD_getElem?, h1]; exact h2

theorem resK_spec {mk nt : FuncId → Nat} {r : ResultVar} {env : Env} {σ : Heap} {c : AV → Prop} (h : resK (compRes P m r) env σ c) :
    ∃ v, c v ∧ ∀ β w tmps, Rel mk nt β (hof σ) w → EnvR β m .nil env tmps → ∃ v', VR β v v' ∧ (resSem tmps r).run P w = .ok v' w := by
  cases r with
  | tmp t =>
    simp only [compRes] at h
    by_cases hb : bit m t = true
    · rw [hb] at h
      have h' : Option.rec (motive := fun _ => Prop) False c (T.get (Pos.ofNat t) env) := h
      cases hg : T.get (Pos.ofNat t) env with
      | none => rw [hg] at h'; exact h'.elim
      | some v =>
        rw [hg] at h'
        exact ⟨v, h', fun β w tmps R he => ⟨_, he.getD (by unfold look; rw [if_pos hb, hg]), rfl⟩⟩
    · have hb' : bit m t = false := by simpa using hb
      rw [hb'] at h; exact h.elim
  | cell a t =>
    simp only [compRes] at h
    split at h
    · rename_i n g hz hg
      by_cases hb : bit m a = true
      · rw [hb] at h
        have h' : Option.rec (motive := fun _ => Prop) False (fun v => ite' g (loadA n v σ c) (load1 v σ c)) (T.get (Pos.ofNat a) env) := h
        cases hga : T.get (Pos.ofNat a) env with
        | none => rw [hga] at h'; exact h'.elim
        | some v =>
          rw [hga] at h'
          have hlk : look m .nil env a = some v := by unfold look; rw [if_pos hb, hga]
          cases g with
          | true =>
            obtain ⟨id, off, rfl, h1⟩ := onPtr_spec (show v.onPtr _ from h')
            obtain ⟨cs, rd, lo, hi, anc, h2, h3, h4⟩ := readCells_spec h1
            refine ⟨_, h4, fun β w tmps R he => ?_⟩
            obtain ⟨b, base, tot, hbb, hv⟩ := (he.getD hlk).ptr_inv
            obtain ⟨l', q1, q2, _, q4⟩ := cells_read (R.obj id _ _ h2 hbb) h3
            refine ⟨.agg ⟨l'⟩, .agg _ _ q1, ?_⟩
            have := run_loadCells_list (P := P) w ⟨b, base + off, none⟩ l' q4
            rw [q2] at this
            simp [resSem, hv, asAddr, loadVar, run_isAgg hg, run_sizeOf hz, this]
          | false =>
            obtain ⟨id, off, rfl, h1⟩ := onPtr_spec (show v.onPtr _ from h')
            obtain ⟨cs, rd, lo, hi, anc, v, h2, h3, h4⟩ := readCell_spec h1
            have hlt := (List.getElem?_eq_some_iff.1 h3).1
            refine ⟨v, h4, fun β w tmps R he => ?_⟩
            obtain ⟨b, base, tot, hbb, hv⟩ := (he.getD hlk).ptr_inv
            obtain ⟨l', q1, q2, _, q4⟩ := cells_read (R.obj id _ _ h2 hbb) (off := off) (n := 1) (by omega)
            have e1 : (cs.drop off).take 1 = [v] := by rw [List.take_one, List.head?_drop, h3]; rfl
            rw [e1] at q1
            obtain ⟨v', rfl, hvv⟩ := q1.one_inv
            have := q4 0 v' rfl
            have e0 : (Addr.add ⟨b, base + off, none⟩ 0) = ⟨b, base + off, none⟩ := rfl
            rw [e0] at this
            exact ⟨v', hvv, by simp [resSem, hv, asAddr, loadVar, run_isAgg hg, this]⟩
      · have hb' : bit m a = false := by simpa using hb
        rw [hb'] at h; exact h.elim
    · exact h.elim

theorem resultsK_spec {mk nt : FuncId → Nat} : ∀ {rs : List ResultVar} {env : Env} {σ : Heap} {c : List AV → Prop}, resultsK (rs.map (compRes P m)) env σ c →
    ∃ vs, c vs ∧ ∀ β w tmps, Rel mk nt β (hof σ) w → EnvR β m .nil env tmps → ∃ vs', VRs β vs vs' ∧ (rs.mapM (resSem tmps)).run P w = .ok vs' w
  | [], env, σ, c, h => ⟨[], h, fun β w tmps _ _ => ⟨[], .nil, by simp⟩⟩
  | r :: rs, env, σ, c, h => by
    have h' : resK (compRes P m r) env σ fun v => resultsK (rs.map (compRes P m)) env σ fun vs => c (v :: vs) := h
    obtain ⟨v, h1, h2⟩ := resK_spec (mk := mk) (nt := nt) h'
    obtain ⟨vs, h3, h4⟩ := resultsK_spec (mk := mk) (nt := nt) h1
    refine ⟨v :: vs, h3, fun β w tmps R he => ?_⟩
    obtain ⟨v', q1, q2⟩ := h2 β w tmps R he
    obtain ⟨vs', q3, q4⟩ := h4 β w tmps R he
    exact ⟨v' :: vs', .cons _ _ _ _ q1 q3, by simp [List.mapM_cons, q2, q4]⟩

theorem finK_spec {mk nt : FuncId → Nat} {fn : Func} {env : Env} {σ : Heap} {c : AV → Prop} (h : resultsK (fn.results.toList.map (compRes P m)) env σ fun vs => oneOr vs c) :
    ∃ v, c v ∧ ∀ β w tmps, Rel mk nt β (hof σ) w → EnvR β m .nil env tmps → ∃ v', VR β v v' ∧ (results fn tmps).run P w = .ok v' w := by
  obtain ⟨vs, h1, h2⟩ := resultsK_spec (mk := mk) (nt := nt) h
  have hres : ∀ tmps, results fn tmps = (do let vs ← fn.results.mapM (resSem tmps); pure (if h : vs.size = 1 then vs[0] else .tuple vs)) := by
    intro tmps
    have hf : (fun r : ResultVar => match r with | .tmp t => (pure (tmps.getD t undef) : Sem Value) | .cell a t => do loadVar t (← asAddr (tmps.getD a undef))) = resSem tmps := by
      funext r; cases r <;> rfl
    rw [← hf]
    rfl
  have hrun : ∀ tmps w vs', (fn.results.toList.mapM (resSem tmps)).run P w = .ok vs' w → (results fn tmps).run P w = .ok (if h : vs'.length = 1 then vs'[0] else .tuple ⟨vs'⟩) w := by
    intro tmps w vs' hr
    rw [hres, Array.mapM_eq_mapM_toList]
    simp [hr]
  cases vs with
  | nil =>
    refine ⟨_, h1, fun β w tmps R he => ?_⟩
    obtain ⟨vs', q1, q2⟩ := h2 β w tmps R he
    cases q1
    exact ⟨_, .tuple [] [] .nil, hrun tmps w [] q2⟩
  | cons v vs =>
    cases vs with
    | nil =>
      refine ⟨v, h1, fun β w tmps R he => ?_⟩
      obtain ⟨vs', q1, q2⟩ := h2 β w tmps R he
      obtain ⟨v', rfl, hv⟩ := q1.one_inv
      exact ⟨v', hv, hrun tmps w [v'] q2⟩
    | cons v2 vs =>
      refine ⟨_, h1, fun β w tmps R he => ?_⟩
      obtain ⟨vs', q1, q2⟩ := h2 β w tmps R he
      have hl := q1.length
      refine ⟨.tuple ⟨vs'⟩, .tuple _ _ q1, ?_⟩
      rw [hrun tmps w vs' q2, dif_neg (by rw [← hl]; simp)]
end
end Go.AE
namespace Go.AE
open Go

section
variable {mk nt : FuncId → Nat}
/-- an object is forgotten -/
theorem unset_rel {β : Be} {h : HO} {w w' : World} (R : Rel mk nt β h w) {id : Pos} {o : AObj} (hid : h id = some o) {x : Nat × Nat × Nat} (hb : β id = some x) (ho : ∀ cs rd lo hi anc, o ≠ .cells cs rd lo hi anc)
    (hk : ∀ b', b' ≠ x.1 → w'.heap[b']? = w.heap[b']?) : Rel mk nt β (upd h id none) w' := by
  have apart : ∀ j oj xj, j ≠ id → h j = some oj → β j = some xj → xj.1 ≠ x.1 := by
    intro j oj xj hne hj hbj hbb
    have := R.sep id j _ _ _ _ (fun h => hne h.symm) hid hj hb hbj hbb.symm
    cases o <;> first | exact ho _ _ _ _ _ rfl | simp [Share] at this
  have back : ∀ q p, upd h id none q = some p → q ≠ id ∧ h q = some p := by
    intro q p hq
    by_cases e : q = id
    · simp [upd, e] at hq
    · simp only [upd, e, if_false] at hq; exact ⟨e, hq⟩
  refine ⟨R.g0, fun q p y hq hy => ?_, fun i j oi oj xi xj hne hi hj bi bj hbb => ?_, fun i p y hlt hq bi => ?_⟩
  · obtain ⟨e, hq⟩ := back q p hq
    exact (R.obj q p y hq hy).heap (hk _ (apart q p y e hq hy))
  · exact R.sep i j oi oj xi xj hne (back i oi hi).2 (back j oj hj).2 bi bj hbb
  · obtain ⟨g1, g2⟩ := R.glob i p y hlt (back i p hq).2 bi
    exact ⟨g1, fun j oj xj hne hj bj => g2 j oj xj hne (back j oj hj).2 bj⟩
theorem unset_fr {β : Be} {h : HO} {w w' : World} {nx : Pos} {id : Pos} {o : AObj} (hid : h id = some o) {x : Nat × Nat × Nat} (hb : β id = some x) (hge : 1000 ≤ id.toNat)
    (h1 : w'.heap.size = w.heap.size) (h2 : ∀ b', b' ≠ x.1 → w'.heap[b']? = w.heap[b']?) (h3 : w'.os = w.os) (h4 : w'.tape = w.tape) (h5 : w'.output = w.output) :
    Fr β h w nx β (upd h id none) w' nx := by
  refine ⟨Nat.le_refl _, fun _ _ => rfl, by omega, ?_, ?_, h3, h4, h5, ?_⟩
  · intro b' _ hc
    exact h2 b' fun e => hc ⟨id, o, _, hge, hid, hb, e.symm⟩
  · intro b' _ ⟨q, p, y, hgq, hq, hy, hyb⟩
    by_cases e : q = id
    · simp [upd, e] at hq
    · simp only [upd, e, if_false] at hq; exact ⟨q, p, y, hgq, hq, hy, hyb⟩
  · intro q p hlt hq
    by_cases e : q = id
    · simp [upd, e] at hq
    · simp only [upd, e, if_false] at hq; exact ⟨p, hq⟩
end

/-- the deferred calls of a frame -/
def LeaveOk (P : Program) (dfs : List DF) (m : Option (List (AV × Bool))) (σ : Heap) (nx : Pos) (m' : Option (List (AV × Bool))) (σ' : Heap) (nx' : Pos) : Prop :=
  nx.toNat ≤ nx'.toNat ∧ ∀ β (fr : Frame) (cs : List Frame) w, ModeR β m fr.mode → DfR β dfs fr.defers → Rel (maskOf P) (ntmpsOf P) β (hof σ) w → Free β nx nx' →
    ∃ β' md' w', Steps P (lone fr cs w) (lone { fr with defers := [], mode := md' } cs w') ∧ ModeR β' m' md' ∧ Rel (maskOf P) (ntmpsOf P) β' (hof σ') w' ∧ Fr β (hof σ) w nx β' (hof σ') w' nx'

section
variable {P : Program} {fr : Frame} {cs : List Frame} {w w' : World}

theorem ModeR.notRun {β : Be} {m : Option (List (AV × Bool))} {md : FrameMode} (h : ModeR β m md) : md ≠ .run := by
  cases m with
  | none => rw [show md = .returning from h]; simp
  | some ch => obtain ⟨ch', rfl, _⟩ := h; simp

theorem step_unwind {s : GStep} (hm : fr.mode ≠ .run) (h : unwind P true fr cs none w = s) : stepG P true { frame := fr, callers := cs, status := .running, dying := none } w = s := by
  cases hmd : fr.mode with
  | run => exact (hm hmd).elim
  | returning => simp only [stepG, hmd]; exact h
  | panicking ch => simp only [stepG, hmd]; exact h

theorem step_collected {r : Nat} {ds : List Deferred} (hm : fr.mode ≠ .run) (hd : fr.defers = { target := .collected r, args := #[] } :: ds) (h : (Instr.takeDeferred r).run P w = .ok [] w') :
    step P (lone fr cs w) = .next (lone { fr with defers := ds } cs w') := by
  refine step_lone_go ?_
  rw [step_unwind hm rfl]
  unfold unwind
  rw [hd]
  simp [Sem.runT_eq, h]

theorem step_deferred_enter {d : Deferred} {ds : List Deferred} {g : FuncId} {cap : Array Value} {f : FuncId} {args : Array Value} (hm : fr.mode ≠ .run) (hd : fr.defers = d :: ds) (ht : d.target = .fn (.func g) cap) (h : (callFunc g (d.args ++ cap)).run P w = .ok (.enter f args) w') :
    step P (lone fr cs w) = .next (lone (Frame.enter P f args .deferred) ({ fr with defers := ds } :: cs) w') := by
  refine step_lone_go ?_
  rw [step_unwind hm rfl]
  obtain ⟨tg, ar⟩ := d
  simp only at ht h
  subst ht
  unfold unwind
  rw [hd]
  have hi : (invoke (.fn (.func g) cap) ar).run P w = .ok (.enter f args) w' := h
  simp [callDeferred, Sem.runT_eq, hi]

theorem step_deferred_value {d : Deferred} {ds : List Deferred} {g : FuncId} {cap : Array Value} {v : Value} (hm : fr.mode ≠ .run) (hd : fr.defers = d :: ds) (ht : d.target = .fn (.func g) cap) (h : (callFunc g (d.args ++ cap)).run P w = .ok (.value v) w') :
    step P (lone fr cs w) = .next (lone { fr with defers := ds } cs w') := by
  refine step_lone_go ?_
  rw [step_unwind hm rfl]
  obtain ⟨tg, ar⟩ := d
  simp only at ht h
  subst ht
  unfold unwind
  rw [hd]
  have hi : (invoke (.fn (.func g) cap) ar).run P w = .ok (.value v) w' := h
  simp [callDeferred, Sem.runT_eq, hi]

theorem ChR.noExit {β : Be} : ∀ {l : List (AV × Bool)} {l' : List PanicEntry}, ChR β l l' → l'.dropWhile (!·.goexit) = []
  | _, _, .nil => rfl
  | _, _, .cons v v' t l l' h hs => by simp [List.dropWhile, ChR.noExit hs]

/-- a deferred call returns -/
theorem step_leave_deferred {β : Be} {m : Option (List (AV × Bool))} {c : Frame} (hc : ModeR β m c.mode) {v : Value} {fn : Func} (hm : fr.mode = .returning) (hd : fr.defers = []) (hk : fr.kind = .deferred) (hf : P.funcs[fr.fn]? = some fn)
    (hr : (results fn fr.tmps).run P w = .ok v w) : ∃ md', ModeR β (settleU m) md' ∧ step P (lone fr (c :: cs) w) = .next (lone { c with mode := md' } cs w) := by
  have key : ∀ s : GStep, unwind P true fr (c :: cs) none w = s → stepG P true { frame := fr, callers := c :: cs, status := .running, dying := none } w = s := fun s h => step_unwind (by rw [hm]; simp) h
  obtain ⟨cf, ctm, ctd, cdf, cmd, ckd, cro⟩ := c
  simp only at hc
  cases m with
  | none =>
    cases hc
    refine ⟨.returning, rfl, step_lone_go ?_⟩
    rw [key _ rfl]
    unfold unwind
    rw [hd, hm, hf]
    simp [Sem.runT_eq, hr, doReturn, hk]
  | some ch =>
    obtain ⟨ch', rfl, hch⟩ := hc
    cases hch with
    | nil =>
      refine ⟨.panicking [], ⟨[], rfl, .nil⟩, step_lone_go ?_⟩
      rw [key _ rfl]
      unfold unwind
      rw [hd, hm, hf]
      simp [Sem.runT_eq, hr, doReturn, hk]
    | cons v v' t l l' h hs =>
      cases t with
      | true =>
        refine ⟨.returning, rfl, step_lone_go ?_⟩
        rw [key _ rfl]
        unfold unwind
        rw [hd, hm, hf]
        simp [Sem.runT_eq, hr, doReturn, hk, hs.noExit]
      | false =>
        refine ⟨.panicking ({ v := v', recovered := false } :: l'), ⟨_, rfl, .cons _ _ _ _ _ h hs⟩, step_lone_go ?_⟩
        rw [key _ rfl]
        unfold unwind
        rw [hd, hm, hf]
        simp [Sem.runT_eq, hr, doReturn, hk]
end
end Go.AE
